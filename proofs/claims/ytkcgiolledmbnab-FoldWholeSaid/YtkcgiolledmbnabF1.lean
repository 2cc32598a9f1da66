/- Printed by gen.py. -/
import Derived.Test.YtkcgiolledmbnabF0
namespace Go.Proofs.Ytkcgiolledmbnab
open Go Go.RowKit
set_option linter.unusedSimpArgs false
set_option linter.unusedVariables false
set_option linter.unnecessarySimpa false
/-! ### backstitch/fold.New -/
noncomputable def fold_New.f (x0 : (List Int)) (x1 : Int) : Option ((Option Slots) × Int) :=
  (shape_Size.f x0).bind fun r23 =>
  if r23.2 = 0 then (if x1 < 0 then (some (none, 1))
  else (if 1024 < x1 then (some (none, 1))
  else ((slices_Clone_int.f x0).bind fun r50 =>
  if 0 ≤ x1 ∧ x1 ≤ 1099511627776 then (some ((some (⟨r50, (List.replicate (x1).toNat (⟨([] : (List Int)), ([] : (List Nat))⟩ : Tensor)), (List.replicate (x1).toNat false), x1⟩ : Slots)), 0))
  else none)))
  else (some (none, r23.2))
set_option maxRecDepth 100000 in
set_option maxHeartbeats 4000000 in
theorem fold_New.calls_s (M : List (Option Nat)) (w0 : World) (x0 : (List Int)) (A0 : Option Addr) (n0 c0 : Nat) (e0 : n0 = x0.length) (x1 : Int) (hm0 : Mem [] M w0 [.sl (Kd.int .i64) A0 c0 x0] w0) (r : ((Option Slots) × Int)) (y : Slots) (hp : r.1 = some y) (H0 : fold_New.f x0 x1 = some r) :
    Calls Try.prog 20 [.slice A0 n0 c0, .int .i64 x1].toArray w0 (fun x w' => ∃ v, x = .returned v ∧ ∃ bp Aq_0 cq_0 Aq_1 cq_1 Aq_2 cq_2, v = .tuple #[.pointer (some ⟨bp, 0, none⟩), .int .i64 r.2] ∧ Mem [] M w0 [.bx bp [.slice Aq_0 y.s.length cq_0, .slice Aq_1 y.l.length cq_1, .slice Aq_2 y.filled.length cq_2, .int .i64 y.left] 80, .sl (Kd.int .i64) Aq_0 cq_0 y.s, .ow kTensor 28 Aq_1 cq_1 y.l, .ow Kd.bool 4 Aq_2 cq_2 y.filled] w') := by
  subst e0
  unfold fold_New.f at H0
  refine enter (n := 31) Try.func20 rfl rfl (by kernel_rfl) fun a0 (hf0 : Fr 31 a0 [(0, .slice A0 x0.length c0), (1, .int .i64 x1)]) => ?_
  refine wp_seq ?_
  refine reg [] [0, 1] [(0, .slice A0 x0.length c0), (1, .int .i64 x1)] [] hf0 (by kernel_rfl) trivial fun a21 hf22 => ?_
  refine thenN ?_
  refine wp_seq ?_
  refine wp_seq ?_
  obtain ⟨r23, hr23, H0⟩ := ob_split H0
  refine inReg ?_
  refine go 1 [] [0, 1, 9] [(0, .slice A0 x0.length c0), (1, .int .i64 x1), (9, .slice A0 x0.length c0)] [] hf22 (by kernel_rfl) trivial fun a24 hf25 => ?_
  refine listOf hf25 rfl (by kernel_rfl) (aCall (fid := 53) (args := [.slice A0 x0.length c0]) (d := 10) hf25 (by kernel_rfl) (by kernel_rfl) callable53 (shape_Size.calls _ _ x0 A0 x0.length c0 rfl (hm0.give [0] [.sl (Kd.int .i64) A0 c0 x0] rfl rfl) r23 hr23) ?_)
  rintro _ w26 a27 ⟨rfl, hk29⟩ hf28
  have hm30 := hm0.still hk29.cum.none
  refine go 5 [] [0, 1, 7] [(0, .slice A0 x0.length c0), (1, .int .i64 x1), (7, .int .i64 r23.2)] [] hf28 (by kernel_rfl) trivial fun a31 hf32 => ?_
  refine endL rfl ?_
  refine thenN ?_
  refine wp_seq ?_
  rcases if_split H0 with ⟨c33, H0⟩ | ⟨c33, H0⟩
  · refine reg [.bool false] [0, 1, 7, 14] [(0, .slice A0 x0.length c0), (1, .int .i64 x1), (7, .int .i64 r23.2), (14, .bool false)] [.is (((r23.2 : Int) != 0) = false)] hf32 (by kernel_rfl) ⟨(neF c33), trivial⟩ fun a34 hf35 => ?_
    refine thenN ?_
    refine condF hf35 (by kernel_rfl) ?_
    refine wp_skip ?_
    refine thenN ?_
    refine wp_seq ?_
    refine wp_seq ?_
    rcases if_split H0 with ⟨c36, H0⟩ | ⟨c36, H0⟩
    · refine reg [.bool true] [0, 1, 21] [(0, .slice A0 x0.length c0), (1, .int .i64 x1), (21, .bool true)] [.is (decide (x1 < 0) = true)] hf35 (by kernel_rfl) ⟨(decide_eq_true c36), trivial⟩ fun a37 hf38 => ?_
      refine thenN ?_
      refine condT hf38 (by kernel_rfl) ?_
      refine wp_seq ?_
      refine reg [] [4, 5] [(4, .pointer none), (5, .int .i64 1)] [] hf38 (by kernel_rfl) trivial fun a39 hf40 => ?_
      have hm41 := hm30.sel [] _ rfl (by kernel_rfl)
      refine thenN ?_
      refine wp_ret ?_
      refine thenR ?_
      obtain rfl := Option.some.inj H0
      exact absurd hp (by simp)
    · rcases if_split H0 with ⟨c42, H0⟩ | ⟨c42, H0⟩
      · refine reg [.bool false, .bool true] [0, 1, 21] [(0, .slice A0 x0.length c0), (1, .int .i64 x1), (21, .bool true)] [.is (decide (x1 < 0) = false), .is (decide (1024 < x1) = true)] hf35 (by kernel_rfl) ⟨(decide_eq_false c36), (decide_eq_true c42), trivial⟩ fun a43 hf44 => ?_
        refine thenN ?_
        refine condT hf44 (by kernel_rfl) ?_
        refine wp_seq ?_
        refine reg [] [4, 5] [(4, .pointer none), (5, .int .i64 1)] [] hf44 (by kernel_rfl) trivial fun a45 hf46 => ?_
        have hm47 := hm30.sel [] _ rfl (by kernel_rfl)
        refine thenN ?_
        refine wp_ret ?_
        refine thenR ?_
        obtain rfl := Option.some.inj H0
        exact absurd hp (by simp)
      · refine reg [.bool false, .bool false] [0, 1, 21] [(0, .slice A0 x0.length c0), (1, .int .i64 x1), (21, .bool false)] [.is (decide (x1 < 0) = false), .is (decide (1024 < x1) = false)] hf35 (by kernel_rfl) ⟨(decide_eq_false c36), (decide_eq_false c42), trivial⟩ fun a48 hf49 => ?_
        refine thenN ?_
        refine condF hf49 (by kernel_rfl) ?_
        refine wp_skip ?_
        refine thenN ?_
        refine wp_seq ?_
        obtain ⟨r50, hr50, H0⟩ := ob_split H0
        obtain ⟨g51, H0⟩ := if_guard H0
        refine midReg (fun (a : Act) (w : World) => ∃ (b79 : Nat) (A52 : Option Addr) (c53 : Nat) (A60 : Option Addr) (c61 : Nat) (A70 : Option Addr) (c71 : Nat), Fr 31 a [(4, .pointer (some ⟨b79, 0, none⟩)), (5, .int .i64 0)] ∧ Mem [] M w0 [.bx b79 [.slice A52 r50.length c53, .slice A60 ((List.replicate (x1).toNat (⟨([] : (List Int)), ([] : (List Nat))⟩ : Tensor)).length) c61, .slice A70 ((List.replicate (x1).toNat false).length) c71, .int .i64 x1] 80, .ow Kd.bool 4 A70 c71 (List.replicate (x1).toNat false), .ow kTensor 28 A60 c61 (List.replicate (x1).toNat (⟨([] : (List Int)), ([] : (List Nat))⟩ : Tensor)), .sl (Kd.int .i64) A52 c53 r50] w) ?_ ?_
        · refine anyG [] (by kernel_rfl) fun w87 hg88 => ?_
          have hm89 := hm30.still hg88
          refine memoStep (R := fun (a : Act) (w : World) => ∃ (A92 : Option Addr) (c93 : Nat), Fr 31 a [(22, .slice A0 x0.length c0), (23, .slice A92 r50.length c93), (24, .int .i64 x1), (26, .int .i64 x1), (28, .int .i64 x1)] ∧ Mem [] M w0 [.sl (Kd.int .i64) A92 c93 r50, .sl (Kd.int .i64) A0 c0 x0] w) #[true, true, true, false, true, false, true, false, false, false, false] 6 ?_ fun L288 => ?_
          · rintro a289 w290 ⟨A92, c93, hf291, hm292⟩
            refine all2 3 5 (by kernel_rfl) ?_ ?_
            · refine opOf hf291 rfl (by kernel_rfl) (aMake (kd := kTensor) (x := (⟨([] : (List Int)), ([] : (List Nat))⟩ : Tensor)) (E := 28) (L := x1) (z := [.slice none 0 0, .slice none 0 0]) (sz := 2) (d := 25) hf291 (by kernel_rfl) (by kernel_rfl) rfl (kTensor.zero) g51.1 g51.2 ?_)
              intro A293 c294 w295 a296 ho298 hb300 hg299 hf297
              refine ⟨.inr (Gr.still hg299), ?_⟩
              have hm301 : Mem [] M w0 [.ow kTensor 28 A293 c294 (List.replicate (x1).toNat (⟨([] : (List Int)), ([] : (List Nat))⟩ : Tensor)), .sl (Kd.int .i64) A92 c93 r50, .sl (Kd.int .i64) A0 c0 x0] w295 := hm292.own (ho298 _) hg299
              refine all1 5 (by kernel_rfl) ?_
              refine opOf hf297 rfl (by kernel_rfl) (aMake (kd := Kd.bool) (x := false) (E := 4) (L := x1) (z := [.bool false]) (sz := 1) (d := 27) hf297 (by kernel_rfl) (by kernel_rfl) rfl (fun _ _ => rfl) g51.1 g51.2 ?_)
              intro A302 c303 w304 a305 ho307 hb309 hg308 hf306
              refine ⟨.inr (Gr.still hg308), ?_⟩
              have hm310 : Mem [] M w0 [.ow Kd.bool 4 A302 c303 (List.replicate (x1).toNat false), .ow kTensor 28 A293 c294 (List.replicate (x1).toNat (⟨([] : (List Int)), ([] : (List Nat))⟩ : Tensor)), .sl (Kd.int .i64) A92 c93 r50, .sl (Kd.int .i64) A0 c0 x0] w304 := hm301.own (ho307 _) hg308
              refine quiet0 [7] [] [29] #[true, true, true, true, true, true, true, true, false, false, false] [(29, .agg #[.slice A92 r50.length c93, .slice A293 ((List.replicate (x1).toNat (⟨([] : (List Int)), ([] : (List Nat))⟩ : Tensor)).length) c294, .slice A302 ((List.replicate (x1).toNat false).length) c303, .int .i64 x1])] [] 3 rfl (by kernel_rfl) (fun _ _ _ _ _ h => nomatch h.1) hf306 (by kernel_rfl) trivial fun a311 hf312 => ?_
              refine all1 8 (by kernel_rfl) ?_
              refine opOf hf312 rfl (by kernel_rfl) (aNew (cs := [.slice A92 r50.length c93, .slice A293 ((List.replicate (x1).toNat (⟨([] : (List Int)), ([] : (List Nat))⟩ : Tensor)).length) c294, .slice A302 ((List.replicate (x1).toNat false).length) c303, .int .i64 x1]) (T := 80) (d := 30) hf312 (by kernel_rfl) (by kernel_rfl) ?_)
              intro b313 w314 a315 hbb313 hx317 hg318 hf316
              refine ⟨.inr (Gr.still hg318), ?_⟩
              have hm319 := hm310.box hbb313 hx317 hg318
              refine quiet0 [9, 10] [] [4, 5] #[true, true, true, true, true, true, true, true, true, true, true] [(4, .pointer (some ⟨b313, 0, none⟩)), (5, .int .i64 0)] [] 0 rfl (by kernel_rfl) (fun _ _ _ _ _ h => nomatch h.1) hf316 (by kernel_rfl) trivial fun a320 hf321 => ?_
              refine allDone (by kernel_rfl) ⟨rfl, b313, A92, c93, A293, c294, A302, c303, hf321.sel (l := [4, 5]) (by kernel_rfl), hm319.sel [0, 1, 2, 3] _ rfl (by kernel_rfl)⟩
            · refine opOf hf291 rfl (by kernel_rfl) (aMake (kd := Kd.bool) (x := false) (E := 4) (L := x1) (z := [.bool false]) (sz := 1) (d := 27) hf291 (by kernel_rfl) (by kernel_rfl) rfl (fun _ _ => rfl) g51.1 g51.2 ?_)
              intro A322 c323 w324 a325 ho327 hb329 hg328 hf326
              refine ⟨.inr (Gr.still hg328), ?_⟩
              have hm330 : Mem [] M w0 [.ow Kd.bool 4 A322 c323 (List.replicate (x1).toNat false), .sl (Kd.int .i64) A92 c93 r50, .sl (Kd.int .i64) A0 c0 x0] w324 := hm292.own (ho327 _) hg328
              refine all1 3 (by kernel_rfl) ?_
              refine opOf hf326 rfl (by kernel_rfl) (aMake (kd := kTensor) (x := (⟨([] : (List Int)), ([] : (List Nat))⟩ : Tensor)) (E := 28) (L := x1) (z := [.slice none 0 0, .slice none 0 0]) (sz := 2) (d := 25) hf326 (by kernel_rfl) (by kernel_rfl) rfl (kTensor.zero) g51.1 g51.2 ?_)
              intro A331 c332 w333 a334 ho336 hb338 hg337 hf335
              refine ⟨.inr (Gr.still hg337), ?_⟩
              have hm339 : Mem [] M w0 [.ow kTensor 28 A331 c332 (List.replicate (x1).toNat (⟨([] : (List Int)), ([] : (List Nat))⟩ : Tensor)), .ow Kd.bool 4 A322 c323 (List.replicate (x1).toNat false), .sl (Kd.int .i64) A92 c93 r50, .sl (Kd.int .i64) A0 c0 x0] w333 := hm330.own (ho336 _) hg337
              refine quiet0 [7] [] [29] #[true, true, true, true, true, true, true, true, false, false, false] [(29, .agg #[.slice A92 r50.length c93, .slice A331 ((List.replicate (x1).toNat (⟨([] : (List Int)), ([] : (List Nat))⟩ : Tensor)).length) c332, .slice A322 ((List.replicate (x1).toNat false).length) c323, .int .i64 x1])] [] 3 rfl (by kernel_rfl) (fun _ _ _ _ _ h => nomatch h.1) hf335 (by kernel_rfl) trivial fun a340 hf341 => ?_
              refine all1 8 (by kernel_rfl) ?_
              refine opOf hf341 rfl (by kernel_rfl) (aNew (cs := [.slice A92 r50.length c93, .slice A331 ((List.replicate (x1).toNat (⟨([] : (List Int)), ([] : (List Nat))⟩ : Tensor)).length) c332, .slice A322 ((List.replicate (x1).toNat false).length) c323, .int .i64 x1]) (T := 80) (d := 30) hf341 (by kernel_rfl) (by kernel_rfl) ?_)
              intro b342 w343 a344 hbb342 hx346 hg347 hf345
              refine ⟨.inr (Gr.still hg347), ?_⟩
              have hm348 := hm339.box hbb342 hx346 hg347
              refine quiet0 [9, 10] [] [4, 5] #[true, true, true, true, true, true, true, true, true, true, true] [(4, .pointer (some ⟨b342, 0, none⟩)), (5, .int .i64 0)] [] 0 rfl (by kernel_rfl) (fun _ _ _ _ _ h => nomatch h.1) hf345 (by kernel_rfl) trivial fun a349 hf350 => ?_
              refine allDone (by kernel_rfl) ⟨rfl, b342, A92, c93, A331, c332, A322, c323, hf350.sel (l := [4, 5]) (by kernel_rfl), hm348.sel [0, 2, 1, 3] _ rfl (by kernel_rfl)⟩
          refine memoStep (R := fun (a : Act) (w : World) => ∃ (A158 : Option Addr) (c159 : Nat), Fr 31 a [(22, .slice A0 x0.length c0), (24, .int .i64 x1), (25, .slice A158 ((List.replicate (x1).toNat (⟨([] : (List Int)), ([] : (List Nat))⟩ : Tensor)).length) c159), (26, .int .i64 x1), (28, .int .i64 x1)] ∧ Mem [] M w0 [.ow kTensor 28 A158 c159 (List.replicate (x1).toNat (⟨([] : (List Int)), ([] : (List Nat))⟩ : Tensor)), .sl (Kd.int .i64) A0 c0 x0] w) #[true, false, true, true, true, false, true, false, false, false, false] 6 ?_ fun L351 => ?_
          · rintro a352 w353 ⟨A158, c159, hf354, hm355⟩
            refine all2 1 5 (by kernel_rfl) ?_ ?_
            · refine opOf hf354 rfl (by kernel_rfl) (aCall (fid := 54) (args := [.slice A0 x0.length c0]) (d := 23) hf354 (by kernel_rfl) (by kernel_rfl) callable54 (slices_Clone_int.calls _ _ x0 A0 x0.length c0 rfl (hm355.give [1] [.sl (Kd.int .i64) A0 c0 x0] rfl rfl) r50 hr50) ?_)
              rintro _ w358 a359 ⟨A356, c357, rfl, hk361⟩ hf360
              refine ⟨.inr (Gr.still hk361.cum.none), ?_⟩
              have hm362 := hm355.back hk361
              have hm363 := hm362.seal 0 _ rfl rfl
              refine all1 5 (by kernel_rfl) ?_
              refine opOf hf360 rfl (by kernel_rfl) (aMake (kd := Kd.bool) (x := false) (E := 4) (L := x1) (z := [.bool false]) (sz := 1) (d := 27) hf360 (by kernel_rfl) (by kernel_rfl) rfl (fun _ _ => rfl) g51.1 g51.2 ?_)
              intro A364 c365 w366 a367 ho369 hb371 hg370 hf368
              refine ⟨.inr (Gr.still hg370), ?_⟩
              have hm372 : Mem [] M w0 [.ow Kd.bool 4 A364 c365 (List.replicate (x1).toNat false), .sl (Kd.int .i64) A356 c357 r50, .ow kTensor 28 A158 c159 (List.replicate (x1).toNat (⟨([] : (List Int)), ([] : (List Nat))⟩ : Tensor)), .sl (Kd.int .i64) A0 c0 x0] w366 := hm363.own (ho369 _) hg370
              refine quiet0 [7] [] [29] #[true, true, true, true, true, true, true, true, false, false, false] [(29, .agg #[.slice A356 r50.length c357, .slice A158 ((List.replicate (x1).toNat (⟨([] : (List Int)), ([] : (List Nat))⟩ : Tensor)).length) c159, .slice A364 ((List.replicate (x1).toNat false).length) c365, .int .i64 x1])] [] 3 rfl (by kernel_rfl) (fun _ _ _ _ _ h => nomatch h.1) hf368 (by kernel_rfl) trivial fun a373 hf374 => ?_
              refine all1 8 (by kernel_rfl) ?_
              refine opOf hf374 rfl (by kernel_rfl) (aNew (cs := [.slice A356 r50.length c357, .slice A158 ((List.replicate (x1).toNat (⟨([] : (List Int)), ([] : (List Nat))⟩ : Tensor)).length) c159, .slice A364 ((List.replicate (x1).toNat false).length) c365, .int .i64 x1]) (T := 80) (d := 30) hf374 (by kernel_rfl) (by kernel_rfl) ?_)
              intro b375 w376 a377 hbb375 hx379 hg380 hf378
              refine ⟨.inr (Gr.still hg380), ?_⟩
              have hm381 := hm372.box hbb375 hx379 hg380
              refine quiet0 [9, 10] [] [4, 5] #[true, true, true, true, true, true, true, true, true, true, true] [(4, .pointer (some ⟨b375, 0, none⟩)), (5, .int .i64 0)] [] 0 rfl (by kernel_rfl) (fun _ _ _ _ _ h => nomatch h.1) hf378 (by kernel_rfl) trivial fun a382 hf383 => ?_
              refine allDone (by kernel_rfl) ⟨rfl, b375, A356, c357, A158, c159, A364, c365, hf383.sel (l := [4, 5]) (by kernel_rfl), hm381.sel [0, 1, 3, 2] _ rfl (by kernel_rfl)⟩
            · refine opOf hf354 rfl (by kernel_rfl) (aMake (kd := Kd.bool) (x := false) (E := 4) (L := x1) (z := [.bool false]) (sz := 1) (d := 27) hf354 (by kernel_rfl) (by kernel_rfl) rfl (fun _ _ => rfl) g51.1 g51.2 ?_)
              intro A384 c385 w386 a387 ho389 hb391 hg390 hf388
              refine ⟨.inr (Gr.still hg390), ?_⟩
              have hm392 : Mem [] M w0 [.ow Kd.bool 4 A384 c385 (List.replicate (x1).toNat false), .ow kTensor 28 A158 c159 (List.replicate (x1).toNat (⟨([] : (List Int)), ([] : (List Nat))⟩ : Tensor)), .sl (Kd.int .i64) A0 c0 x0] w386 := hm355.own (ho389 _) hg390
              refine all1 1 (by kernel_rfl) ?_
              refine opOf hf388 rfl (by kernel_rfl) (aCall (fid := 54) (args := [.slice A0 x0.length c0]) (d := 23) hf388 (by kernel_rfl) (by kernel_rfl) callable54 (slices_Clone_int.calls _ _ x0 A0 x0.length c0 rfl (hm392.give [2] [.sl (Kd.int .i64) A0 c0 x0] rfl rfl) r50 hr50) ?_)
              rintro _ w395 a396 ⟨A393, c394, rfl, hk398⟩ hf397
              refine ⟨.inr (Gr.still hk398.cum.none), ?_⟩
              have hm399 := hm392.back hk398
              have hm400 := hm399.seal 0 _ rfl rfl
              refine quiet0 [7] [] [29] #[true, true, true, true, true, true, true, true, false, false, false] [(29, .agg #[.slice A393 r50.length c394, .slice A158 ((List.replicate (x1).toNat (⟨([] : (List Int)), ([] : (List Nat))⟩ : Tensor)).length) c159, .slice A384 ((List.replicate (x1).toNat false).length) c385, .int .i64 x1])] [] 3 rfl (by kernel_rfl) (fun _ _ _ _ _ h => nomatch h.1) hf397 (by kernel_rfl) trivial fun a401 hf402 => ?_
              refine all1 8 (by kernel_rfl) ?_
              refine opOf hf402 rfl (by kernel_rfl) (aNew (cs := [.slice A393 r50.length c394, .slice A158 ((List.replicate (x1).toNat (⟨([] : (List Int)), ([] : (List Nat))⟩ : Tensor)).length) c159, .slice A384 ((List.replicate (x1).toNat false).length) c385, .int .i64 x1]) (T := 80) (d := 30) hf402 (by kernel_rfl) (by kernel_rfl) ?_)
              intro b403 w404 a405 hbb403 hx407 hg408 hf406
              refine ⟨.inr (Gr.still hg408), ?_⟩
              have hm409 := hm400.box hbb403 hx407 hg408
              refine quiet0 [9, 10] [] [4, 5] #[true, true, true, true, true, true, true, true, true, true, true] [(4, .pointer (some ⟨b403, 0, none⟩)), (5, .int .i64 0)] [] 0 rfl (by kernel_rfl) (fun _ _ _ _ _ h => nomatch h.1) hf406 (by kernel_rfl) trivial fun a410 hf411 => ?_
              refine allDone (by kernel_rfl) ⟨rfl, b403, A393, c394, A158, c159, A384, c385, hf411.sel (l := [4, 5]) (by kernel_rfl), hm409.sel [0, 2, 3, 1] _ rfl (by kernel_rfl)⟩
          refine memoStep (R := fun (a : Act) (w : World) => ∃ (A223 : Option Addr) (c224 : Nat), Fr 31 a [(22, .slice A0 x0.length c0), (24, .int .i64 x1), (26, .int .i64 x1), (27, .slice A223 ((List.replicate (x1).toNat false).length) c224), (28, .int .i64 x1)] ∧ Mem [] M w0 [.ow Kd.bool 4 A223 c224 (List.replicate (x1).toNat false), .sl (Kd.int .i64) A0 c0 x0] w) #[true, false, true, false, true, true, true, false, false, false, false] 6 ?_ fun L412 => ?_
          · rintro a413 w414 ⟨A223, c224, hf415, hm416⟩
            refine all2 1 3 (by kernel_rfl) ?_ ?_
            · refine opOf hf415 rfl (by kernel_rfl) (aCall (fid := 54) (args := [.slice A0 x0.length c0]) (d := 23) hf415 (by kernel_rfl) (by kernel_rfl) callable54 (slices_Clone_int.calls _ _ x0 A0 x0.length c0 rfl (hm416.give [1] [.sl (Kd.int .i64) A0 c0 x0] rfl rfl) r50 hr50) ?_)
              rintro _ w419 a420 ⟨A417, c418, rfl, hk422⟩ hf421
              refine ⟨.inr (Gr.still hk422.cum.none), ?_⟩
              have hm423 := hm416.back hk422
              have hm424 := hm423.seal 0 _ rfl rfl
              refine all1 3 (by kernel_rfl) ?_
              refine opOf hf421 rfl (by kernel_rfl) (aMake (kd := kTensor) (x := (⟨([] : (List Int)), ([] : (List Nat))⟩ : Tensor)) (E := 28) (L := x1) (z := [.slice none 0 0, .slice none 0 0]) (sz := 2) (d := 25) hf421 (by kernel_rfl) (by kernel_rfl) rfl (kTensor.zero) g51.1 g51.2 ?_)
              intro A425 c426 w427 a428 ho430 hb432 hg431 hf429
              refine ⟨.inr (Gr.still hg431), ?_⟩
              have hm433 : Mem [] M w0 [.ow kTensor 28 A425 c426 (List.replicate (x1).toNat (⟨([] : (List Int)), ([] : (List Nat))⟩ : Tensor)), .sl (Kd.int .i64) A417 c418 r50, .ow Kd.bool 4 A223 c224 (List.replicate (x1).toNat false), .sl (Kd.int .i64) A0 c0 x0] w427 := hm424.own (ho430 _) hg431
              refine quiet0 [7] [] [29] #[true, true, true, true, true, true, true, true, false, false, false] [(29, .agg #[.slice A417 r50.length c418, .slice A425 ((List.replicate (x1).toNat (⟨([] : (List Int)), ([] : (List Nat))⟩ : Tensor)).length) c426, .slice A223 ((List.replicate (x1).toNat false).length) c224, .int .i64 x1])] [] 3 rfl (by kernel_rfl) (fun _ _ _ _ _ h => nomatch h.1) hf429 (by kernel_rfl) trivial fun a434 hf435 => ?_
              refine all1 8 (by kernel_rfl) ?_
              refine opOf hf435 rfl (by kernel_rfl) (aNew (cs := [.slice A417 r50.length c418, .slice A425 ((List.replicate (x1).toNat (⟨([] : (List Int)), ([] : (List Nat))⟩ : Tensor)).length) c426, .slice A223 ((List.replicate (x1).toNat false).length) c224, .int .i64 x1]) (T := 80) (d := 30) hf435 (by kernel_rfl) (by kernel_rfl) ?_)
              intro b436 w437 a438 hbb436 hx440 hg441 hf439
              refine ⟨.inr (Gr.still hg441), ?_⟩
              have hm442 := hm433.box hbb436 hx440 hg441
              refine quiet0 [9, 10] [] [4, 5] #[true, true, true, true, true, true, true, true, true, true, true] [(4, .pointer (some ⟨b436, 0, none⟩)), (5, .int .i64 0)] [] 0 rfl (by kernel_rfl) (fun _ _ _ _ _ h => nomatch h.1) hf439 (by kernel_rfl) trivial fun a443 hf444 => ?_
              refine allDone (by kernel_rfl) ⟨rfl, b436, A417, c418, A425, c426, A223, c224, hf444.sel (l := [4, 5]) (by kernel_rfl), hm442.sel [0, 3, 1, 2] _ rfl (by kernel_rfl)⟩
            · refine opOf hf415 rfl (by kernel_rfl) (aMake (kd := kTensor) (x := (⟨([] : (List Int)), ([] : (List Nat))⟩ : Tensor)) (E := 28) (L := x1) (z := [.slice none 0 0, .slice none 0 0]) (sz := 2) (d := 25) hf415 (by kernel_rfl) (by kernel_rfl) rfl (kTensor.zero) g51.1 g51.2 ?_)
              intro A445 c446 w447 a448 ho450 hb452 hg451 hf449
              refine ⟨.inr (Gr.still hg451), ?_⟩
              have hm453 : Mem [] M w0 [.ow kTensor 28 A445 c446 (List.replicate (x1).toNat (⟨([] : (List Int)), ([] : (List Nat))⟩ : Tensor)), .ow Kd.bool 4 A223 c224 (List.replicate (x1).toNat false), .sl (Kd.int .i64) A0 c0 x0] w447 := hm416.own (ho450 _) hg451
              refine all1 1 (by kernel_rfl) ?_
              refine opOf hf449 rfl (by kernel_rfl) (aCall (fid := 54) (args := [.slice A0 x0.length c0]) (d := 23) hf449 (by kernel_rfl) (by kernel_rfl) callable54 (slices_Clone_int.calls _ _ x0 A0 x0.length c0 rfl (hm453.give [2] [.sl (Kd.int .i64) A0 c0 x0] rfl rfl) r50 hr50) ?_)
              rintro _ w456 a457 ⟨A454, c455, rfl, hk459⟩ hf458
              refine ⟨.inr (Gr.still hk459.cum.none), ?_⟩
              have hm460 := hm453.back hk459
              have hm461 := hm460.seal 0 _ rfl rfl
              refine quiet0 [7] [] [29] #[true, true, true, true, true, true, true, true, false, false, false] [(29, .agg #[.slice A454 r50.length c455, .slice A445 ((List.replicate (x1).toNat (⟨([] : (List Int)), ([] : (List Nat))⟩ : Tensor)).length) c446, .slice A223 ((List.replicate (x1).toNat false).length) c224, .int .i64 x1])] [] 3 rfl (by kernel_rfl) (fun _ _ _ _ _ h => nomatch h.1) hf458 (by kernel_rfl) trivial fun a462 hf463 => ?_
              refine all1 8 (by kernel_rfl) ?_
              refine opOf hf463 rfl (by kernel_rfl) (aNew (cs := [.slice A454 r50.length c455, .slice A445 ((List.replicate (x1).toNat (⟨([] : (List Int)), ([] : (List Nat))⟩ : Tensor)).length) c446, .slice A223 ((List.replicate (x1).toNat false).length) c224, .int .i64 x1]) (T := 80) (d := 30) hf463 (by kernel_rfl) (by kernel_rfl) ?_)
              intro b464 w465 a466 hbb464 hx468 hg469 hf467
              refine ⟨.inr (Gr.still hg469), ?_⟩
              have hm470 := hm461.box hbb464 hx468 hg469
              refine quiet0 [9, 10] [] [4, 5] #[true, true, true, true, true, true, true, true, true, true, true] [(4, .pointer (some ⟨b464, 0, none⟩)), (5, .int .i64 0)] [] 0 rfl (by kernel_rfl) (fun _ _ _ _ _ h => nomatch h.1) hf467 (by kernel_rfl) trivial fun a471 hf472 => ?_
              refine allDone (by kernel_rfl) ⟨rfl, b464, A454, c455, A445, c446, A223, c224, hf472.sel (l := [4, 5]) (by kernel_rfl), hm470.sel [0, 3, 2, 1] _ rfl (by kernel_rfl)⟩
          refine memoStep (R := fun (a : Act) (w : World) => Fr 31 a [(22, .slice A0 x0.length c0), (24, .int .i64 x1), (26, .int .i64 x1), (28, .int .i64 x1)] ∧ Mem [] M w0 [.sl (Kd.int .i64) A0 c0 x0] w) #[true, false, true, false, true, false, true, false, false, false, false] 7 ?_ fun L473 => ?_
          · rintro a474 w475 ⟨hf476, hm477⟩
            refine all3 1 3 5 (by kernel_rfl) ?_ ?_ ?_
            · refine opOf hf476 rfl (by kernel_rfl) (aCall (fid := 54) (args := [.slice A0 x0.length c0]) (d := 23) hf476 (by kernel_rfl) (by kernel_rfl) callable54 (slices_Clone_int.calls _ _ x0 A0 x0.length c0 rfl (hm477.give [0] [.sl (Kd.int .i64) A0 c0 x0] rfl rfl) r50 hr50) ?_)
              rintro _ w480 a481 ⟨A478, c479, rfl, hk483⟩ hf482
              refine ⟨.inr (Gr.still hk483.cum.none), ?_⟩
              have hm484 := hm477.back hk483
              have hm485 := hm484.seal 0 _ rfl rfl
              exact L288 _ _ ⟨A478, c479, hf482.sel (l := [22, 23, 24, 26, 28]) (by kernel_rfl), hm485.sel [0, 1] _ rfl (by kernel_rfl)⟩
            · refine opOf hf476 rfl (by kernel_rfl) (aMake (kd := kTensor) (x := (⟨([] : (List Int)), ([] : (List Nat))⟩ : Tensor)) (E := 28) (L := x1) (z := [.slice none 0 0, .slice none 0 0]) (sz := 2) (d := 25) hf476 (by kernel_rfl) (by kernel_rfl) rfl (kTensor.zero) g51.1 g51.2 ?_)
              intro A486 c487 w488 a489 ho491 hb493 hg492 hf490
              refine ⟨.inr (Gr.still hg492), ?_⟩
              have hm494 : Mem [] M w0 [.ow kTensor 28 A486 c487 (List.replicate (x1).toNat (⟨([] : (List Int)), ([] : (List Nat))⟩ : Tensor)), .sl (Kd.int .i64) A0 c0 x0] w488 := hm477.own (ho491 _) hg492
              exact L351 _ _ ⟨A486, c487, hf490.sel (l := [22, 24, 25, 26, 28]) (by kernel_rfl), hm494.sel [0, 1] _ rfl (by kernel_rfl)⟩
            · refine opOf hf476 rfl (by kernel_rfl) (aMake (kd := Kd.bool) (x := false) (E := 4) (L := x1) (z := [.bool false]) (sz := 1) (d := 27) hf476 (by kernel_rfl) (by kernel_rfl) rfl (fun _ _ => rfl) g51.1 g51.2 ?_)
              intro A495 c496 w497 a498 ho500 hb502 hg501 hf499
              refine ⟨.inr (Gr.still hg501), ?_⟩
              have hm503 : Mem [] M w0 [.ow Kd.bool 4 A495 c496 (List.replicate (x1).toNat false), .sl (Kd.int .i64) A0 c0 x0] w497 := hm477.own (ho500 _) hg501
              exact L412 _ _ ⟨A495, c496, hf499.sel (l := [22, 24, 26, 27, 28]) (by kernel_rfl), hm503.sel [0, 1] _ rfl (by kernel_rfl)⟩
          refine quiet0 [0, 2, 4, 6] [] [22, 24, 26, 28] #[true, false, true, false, true, false, true, false, false, false, false] [(22, .slice A0 x0.length c0), (24, .int .i64 x1), (26, .int .i64 x1), (28, .int .i64 x1)] [] 7 rfl (by kernel_rfl) (fun _ _ _ _ _ h => nomatch h.1) hf49 (by kernel_rfl) trivial fun a504 hf505 => ?_
          exact L473 _ _ ⟨hf505.sel (l := [22, 24, 26, 28]) (by kernel_rfl), hm89.sel [0] _ rfl (by kernel_rfl)⟩
        rintro a506 w507 ⟨b79, A52, c53, A60, c61, A70, c71, hf508, hm509⟩
        refine thenN ?_
        refine wp_ret ?_
        have hm510 : Mem [] M w0 [.bx b79 [.slice A52 r50.length c53, .slice A60 ((List.replicate (x1).toNat (⟨([] : (List Int)), ([] : (List Nat))⟩ : Tensor)).length) c61, .slice A70 ((List.replicate (x1).toNat false).length) c71, .int .i64 x1] 80, .sl (Kd.int .i64) A52 c53 r50, .ow kTensor 28 A60 c61 (List.replicate (x1).toNat (⟨([] : (List Int)), ([] : (List Nat))⟩ : Tensor)), .ow Kd.bool 4 A70 c71 (List.replicate (x1).toNat false)] w507 := hm509.sel [0, 3, 2, 1] _ rfl (by kernel_rfl)
        obtain rfl := Option.some.inj H0
        obtain rfl := Option.some.inj hp
        refine ret [] [.pointer (some ⟨b79, 0, none⟩), .int .i64 0] [] hf508 (by kernel_rfl) trivial ?_
        exact ⟨_, rfl, b79, A52, c53, A60, c61, A70, c71, rfl, hm510⟩
  · refine reg [.bool true] [0, 1, 7, 14] [(0, .slice A0 x0.length c0), (1, .int .i64 x1), (7, .int .i64 r23.2), (14, .bool true)] [.is (((r23.2 : Int) != 0) = true)] hf32 (by kernel_rfl) ⟨(neT c33), trivial⟩ fun a512 hf513 => ?_
    refine thenN ?_
    refine condT hf513 (by kernel_rfl) ?_
    refine wp_seq ?_
    refine reg [] [4, 5] [(4, .pointer none), (5, .int .i64 r23.2)] [] hf513 (by kernel_rfl) trivial fun a514 hf515 => ?_
    have hm516 := hm30.sel [] _ rfl (by kernel_rfl)
    refine thenN ?_
    refine wp_ret ?_
    refine thenR ?_
    obtain rfl := Option.some.inj H0
    exact absurd hp (by simp)
set_option maxRecDepth 100000 in
set_option maxHeartbeats 4000000 in
theorem fold_New.calls_n (M : List (Option Nat)) (w0 : World) (x0 : (List Int)) (A0 : Option Addr) (n0 c0 : Nat) (e0 : n0 = x0.length) (x1 : Int) (hm0 : Mem [] M w0 [.sl (Kd.int .i64) A0 c0 x0] w0) (r : ((Option Slots) × Int)) (hp : r.1 = none) (H0 : fold_New.f x0 x1 = some r) :
    Calls Try.prog 20 [.slice A0 n0 c0, .int .i64 x1].toArray w0 (fun x w' => ∃ v, x = .returned v ∧ v = .tuple #[.pointer none, .int .i64 r.2] ∧ Mem [] M w0 [] w') := by
  subst e0
  unfold fold_New.f at H0
  refine enter (n := 31) Try.func20 rfl rfl (by kernel_rfl) fun a0 (hf0 : Fr 31 a0 [(0, .slice A0 x0.length c0), (1, .int .i64 x1)]) => ?_
  refine wp_seq ?_
  refine reg [] [0, 1] [(0, .slice A0 x0.length c0), (1, .int .i64 x1)] [] hf0 (by kernel_rfl) trivial fun a21 hf22 => ?_
  refine thenN ?_
  refine wp_seq ?_
  refine wp_seq ?_
  obtain ⟨r23, hr23, H0⟩ := ob_split H0
  refine inReg ?_
  refine go 1 [] [0, 1, 9] [(0, .slice A0 x0.length c0), (1, .int .i64 x1), (9, .slice A0 x0.length c0)] [] hf22 (by kernel_rfl) trivial fun a24 hf25 => ?_
  refine listOf hf25 rfl (by kernel_rfl) (aCall (fid := 53) (args := [.slice A0 x0.length c0]) (d := 10) hf25 (by kernel_rfl) (by kernel_rfl) callable53 (shape_Size.calls _ _ x0 A0 x0.length c0 rfl (hm0.give [0] [.sl (Kd.int .i64) A0 c0 x0] rfl rfl) r23 hr23) ?_)
  rintro _ w26 a27 ⟨rfl, hk29⟩ hf28
  have hm30 := hm0.still hk29.cum.none
  refine go 5 [] [0, 1, 7] [(0, .slice A0 x0.length c0), (1, .int .i64 x1), (7, .int .i64 r23.2)] [] hf28 (by kernel_rfl) trivial fun a31 hf32 => ?_
  refine endL rfl ?_
  refine thenN ?_
  refine wp_seq ?_
  rcases if_split H0 with ⟨c33, H0⟩ | ⟨c33, H0⟩
  · refine reg [.bool false] [0, 1, 7, 14] [(0, .slice A0 x0.length c0), (1, .int .i64 x1), (7, .int .i64 r23.2), (14, .bool false)] [.is (((r23.2 : Int) != 0) = false)] hf32 (by kernel_rfl) ⟨(neF c33), trivial⟩ fun a34 hf35 => ?_
    refine thenN ?_
    refine condF hf35 (by kernel_rfl) ?_
    refine wp_skip ?_
    refine thenN ?_
    refine wp_seq ?_
    refine wp_seq ?_
    rcases if_split H0 with ⟨c36, H0⟩ | ⟨c36, H0⟩
    · refine reg [.bool true] [0, 1, 21] [(0, .slice A0 x0.length c0), (1, .int .i64 x1), (21, .bool true)] [.is (decide (x1 < 0) = true)] hf35 (by kernel_rfl) ⟨(decide_eq_true c36), trivial⟩ fun a37 hf38 => ?_
      refine thenN ?_
      refine condT hf38 (by kernel_rfl) ?_
      refine wp_seq ?_
      refine reg [] [4, 5] [(4, .pointer none), (5, .int .i64 1)] [] hf38 (by kernel_rfl) trivial fun a39 hf40 => ?_
      have hm41 := hm30.sel [] _ rfl (by kernel_rfl)
      refine thenN ?_
      refine wp_ret ?_
      refine thenR ?_
      have hm42 : Mem [] M w0 [] w26 := hm41.sel [] _ rfl (by kernel_rfl)
      obtain rfl := Option.some.inj H0
      refine ret [] [.pointer none, .int .i64 1] [] hf40 (by kernel_rfl) trivial ?_
      exact ⟨_, rfl, rfl, hm42⟩
    · rcases if_split H0 with ⟨c44, H0⟩ | ⟨c44, H0⟩
      · refine reg [.bool false, .bool true] [0, 1, 21] [(0, .slice A0 x0.length c0), (1, .int .i64 x1), (21, .bool true)] [.is (decide (x1 < 0) = false), .is (decide (1024 < x1) = true)] hf35 (by kernel_rfl) ⟨(decide_eq_false c36), (decide_eq_true c44), trivial⟩ fun a45 hf46 => ?_
        refine thenN ?_
        refine condT hf46 (by kernel_rfl) ?_
        refine wp_seq ?_
        refine reg [] [4, 5] [(4, .pointer none), (5, .int .i64 1)] [] hf46 (by kernel_rfl) trivial fun a47 hf48 => ?_
        have hm49 := hm30.sel [] _ rfl (by kernel_rfl)
        refine thenN ?_
        refine wp_ret ?_
        refine thenR ?_
        have hm50 : Mem [] M w0 [] w26 := hm49.sel [] _ rfl (by kernel_rfl)
        obtain rfl := Option.some.inj H0
        refine ret [] [.pointer none, .int .i64 1] [] hf48 (by kernel_rfl) trivial ?_
        exact ⟨_, rfl, rfl, hm50⟩
      · refine reg [.bool false, .bool false] [0, 1, 21] [(0, .slice A0 x0.length c0), (1, .int .i64 x1), (21, .bool false)] [.is (decide (x1 < 0) = false), .is (decide (1024 < x1) = false)] hf35 (by kernel_rfl) ⟨(decide_eq_false c36), (decide_eq_false c44), trivial⟩ fun a52 hf53 => ?_
        refine thenN ?_
        refine condF hf53 (by kernel_rfl) ?_
        refine wp_skip ?_
        refine thenN ?_
        refine wp_seq ?_
        obtain ⟨r54, hr54, H0⟩ := ob_split H0
        obtain ⟨g55, H0⟩ := if_guard H0
        refine midReg (fun (a : Act) (w : World) => ∃ (b83 : Nat) (A56 : Option Addr) (c57 : Nat) (A65 : Option Addr) (c66 : Nat) (A74 : Option Addr) (c75 : Nat), Fr 31 a [(4, .pointer (some ⟨b83, 0, none⟩)), (5, .int .i64 0)] ∧ Mem [] M w0 [.bx b83 [.slice A56 r54.length c57, .slice A65 ((List.replicate (x1).toNat (⟨([] : (List Int)), ([] : (List Nat))⟩ : Tensor)).length) c66, .slice A74 ((List.replicate (x1).toNat false).length) c75, .int .i64 x1] 80, .ow Kd.bool 4 A74 c75 (List.replicate (x1).toNat false), .ow kTensor 28 A65 c66 (List.replicate (x1).toNat (⟨([] : (List Int)), ([] : (List Nat))⟩ : Tensor)), .sl (Kd.int .i64) A56 c57 r54] w) ?_ ?_
        · refine anyG [] (by kernel_rfl) fun w91 hg92 => ?_
          have hm93 := hm30.still hg92
          refine memoStep (R := fun (a : Act) (w : World) => ∃ (A96 : Option Addr) (c97 : Nat), Fr 31 a [(22, .slice A0 x0.length c0), (23, .slice A96 r54.length c97), (24, .int .i64 x1), (26, .int .i64 x1), (28, .int .i64 x1)] ∧ Mem [] M w0 [.sl (Kd.int .i64) A96 c97 r54, .sl (Kd.int .i64) A0 c0 x0] w) #[true, true, true, false, true, false, true, false, false, false, false] 6 ?_ fun L292 => ?_
          · rintro a293 w294 ⟨A96, c97, hf295, hm296⟩
            refine all2 3 5 (by kernel_rfl) ?_ ?_
            · refine opOf hf295 rfl (by kernel_rfl) (aMake (kd := kTensor) (x := (⟨([] : (List Int)), ([] : (List Nat))⟩ : Tensor)) (E := 28) (L := x1) (z := [.slice none 0 0, .slice none 0 0]) (sz := 2) (d := 25) hf295 (by kernel_rfl) (by kernel_rfl) rfl (kTensor.zero) g55.1 g55.2 ?_)
              intro A297 c298 w299 a300 ho302 hb304 hg303 hf301
              refine ⟨.inr (Gr.still hg303), ?_⟩
              have hm305 : Mem [] M w0 [.ow kTensor 28 A297 c298 (List.replicate (x1).toNat (⟨([] : (List Int)), ([] : (List Nat))⟩ : Tensor)), .sl (Kd.int .i64) A96 c97 r54, .sl (Kd.int .i64) A0 c0 x0] w299 := hm296.own (ho302 _) hg303
              refine all1 5 (by kernel_rfl) ?_
              refine opOf hf301 rfl (by kernel_rfl) (aMake (kd := Kd.bool) (x := false) (E := 4) (L := x1) (z := [.bool false]) (sz := 1) (d := 27) hf301 (by kernel_rfl) (by kernel_rfl) rfl (fun _ _ => rfl) g55.1 g55.2 ?_)
              intro A306 c307 w308 a309 ho311 hb313 hg312 hf310
              refine ⟨.inr (Gr.still hg312), ?_⟩
              have hm314 : Mem [] M w0 [.ow Kd.bool 4 A306 c307 (List.replicate (x1).toNat false), .ow kTensor 28 A297 c298 (List.replicate (x1).toNat (⟨([] : (List Int)), ([] : (List Nat))⟩ : Tensor)), .sl (Kd.int .i64) A96 c97 r54, .sl (Kd.int .i64) A0 c0 x0] w308 := hm305.own (ho311 _) hg312
              refine quiet0 [7] [] [29] #[true, true, true, true, true, true, true, true, false, false, false] [(29, .agg #[.slice A96 r54.length c97, .slice A297 ((List.replicate (x1).toNat (⟨([] : (List Int)), ([] : (List Nat))⟩ : Tensor)).length) c298, .slice A306 ((List.replicate (x1).toNat false).length) c307, .int .i64 x1])] [] 3 rfl (by kernel_rfl) (fun _ _ _ _ _ h => nomatch h.1) hf310 (by kernel_rfl) trivial fun a315 hf316 => ?_
              refine all1 8 (by kernel_rfl) ?_
              refine opOf hf316 rfl (by kernel_rfl) (aNew (cs := [.slice A96 r54.length c97, .slice A297 ((List.replicate (x1).toNat (⟨([] : (List Int)), ([] : (List Nat))⟩ : Tensor)).length) c298, .slice A306 ((List.replicate (x1).toNat false).length) c307, .int .i64 x1]) (T := 80) (d := 30) hf316 (by kernel_rfl) (by kernel_rfl) ?_)
              intro b317 w318 a319 hbb317 hx321 hg322 hf320
              refine ⟨.inr (Gr.still hg322), ?_⟩
              have hm323 := hm314.box hbb317 hx321 hg322
              refine quiet0 [9, 10] [] [4, 5] #[true, true, true, true, true, true, true, true, true, true, true] [(4, .pointer (some ⟨b317, 0, none⟩)), (5, .int .i64 0)] [] 0 rfl (by kernel_rfl) (fun _ _ _ _ _ h => nomatch h.1) hf320 (by kernel_rfl) trivial fun a324 hf325 => ?_
              refine allDone (by kernel_rfl) ⟨rfl, b317, A96, c97, A297, c298, A306, c307, hf325.sel (l := [4, 5]) (by kernel_rfl), hm323.sel [0, 1, 2, 3] _ rfl (by kernel_rfl)⟩
            · refine opOf hf295 rfl (by kernel_rfl) (aMake (kd := Kd.bool) (x := false) (E := 4) (L := x1) (z := [.bool false]) (sz := 1) (d := 27) hf295 (by kernel_rfl) (by kernel_rfl) rfl (fun _ _ => rfl) g55.1 g55.2 ?_)
              intro A326 c327 w328 a329 ho331 hb333 hg332 hf330
              refine ⟨.inr (Gr.still hg332), ?_⟩
              have hm334 : Mem [] M w0 [.ow Kd.bool 4 A326 c327 (List.replicate (x1).toNat false), .sl (Kd.int .i64) A96 c97 r54, .sl (Kd.int .i64) A0 c0 x0] w328 := hm296.own (ho331 _) hg332
              refine all1 3 (by kernel_rfl) ?_
              refine opOf hf330 rfl (by kernel_rfl) (aMake (kd := kTensor) (x := (⟨([] : (List Int)), ([] : (List Nat))⟩ : Tensor)) (E := 28) (L := x1) (z := [.slice none 0 0, .slice none 0 0]) (sz := 2) (d := 25) hf330 (by kernel_rfl) (by kernel_rfl) rfl (kTensor.zero) g55.1 g55.2 ?_)
              intro A335 c336 w337 a338 ho340 hb342 hg341 hf339
              refine ⟨.inr (Gr.still hg341), ?_⟩
              have hm343 : Mem [] M w0 [.ow kTensor 28 A335 c336 (List.replicate (x1).toNat (⟨([] : (List Int)), ([] : (List Nat))⟩ : Tensor)), .ow Kd.bool 4 A326 c327 (List.replicate (x1).toNat false), .sl (Kd.int .i64) A96 c97 r54, .sl (Kd.int .i64) A0 c0 x0] w337 := hm334.own (ho340 _) hg341
              refine quiet0 [7] [] [29] #[true, true, true, true, true, true, true, true, false, false, false] [(29, .agg #[.slice A96 r54.length c97, .slice A335 ((List.replicate (x1).toNat (⟨([] : (List Int)), ([] : (List Nat))⟩ : Tensor)).length) c336, .slice A326 ((List.replicate (x1).toNat false).length) c327, .int .i64 x1])] [] 3 rfl (by kernel_rfl) (fun _ _ _ _ _ h => nomatch h.1) hf339 (by kernel_rfl) trivial fun a344 hf345 => ?_
              refine all1 8 (by kernel_rfl) ?_
              refine opOf hf345 rfl (by kernel_rfl) (aNew (cs := [.slice A96 r54.length c97, .slice A335 ((List.replicate (x1).toNat (⟨([] : (List Int)), ([] : (List Nat))⟩ : Tensor)).length) c336, .slice A326 ((List.replicate (x1).toNat false).length) c327, .int .i64 x1]) (T := 80) (d := 30) hf345 (by kernel_rfl) (by kernel_rfl) ?_)
              intro b346 w347 a348 hbb346 hx350 hg351 hf349
              refine ⟨.inr (Gr.still hg351), ?_⟩
              have hm352 := hm343.box hbb346 hx350 hg351
              refine quiet0 [9, 10] [] [4, 5] #[true, true, true, true, true, true, true, true, true, true, true] [(4, .pointer (some ⟨b346, 0, none⟩)), (5, .int .i64 0)] [] 0 rfl (by kernel_rfl) (fun _ _ _ _ _ h => nomatch h.1) hf349 (by kernel_rfl) trivial fun a353 hf354 => ?_
              refine allDone (by kernel_rfl) ⟨rfl, b346, A96, c97, A335, c336, A326, c327, hf354.sel (l := [4, 5]) (by kernel_rfl), hm352.sel [0, 2, 1, 3] _ rfl (by kernel_rfl)⟩
          refine memoStep (R := fun (a : Act) (w : World) => ∃ (A162 : Option Addr) (c163 : Nat), Fr 31 a [(22, .slice A0 x0.length c0), (24, .int .i64 x1), (25, .slice A162 ((List.replicate (x1).toNat (⟨([] : (List Int)), ([] : (List Nat))⟩ : Tensor)).length) c163), (26, .int .i64 x1), (28, .int .i64 x1)] ∧ Mem [] M w0 [.ow kTensor 28 A162 c163 (List.replicate (x1).toNat (⟨([] : (List Int)), ([] : (List Nat))⟩ : Tensor)), .sl (Kd.int .i64) A0 c0 x0] w) #[true, false, true, true, true, false, true, false, false, false, false] 6 ?_ fun L355 => ?_
          · rintro a356 w357 ⟨A162, c163, hf358, hm359⟩
            refine all2 1 5 (by kernel_rfl) ?_ ?_
            · refine opOf hf358 rfl (by kernel_rfl) (aCall (fid := 54) (args := [.slice A0 x0.length c0]) (d := 23) hf358 (by kernel_rfl) (by kernel_rfl) callable54 (slices_Clone_int.calls _ _ x0 A0 x0.length c0 rfl (hm359.give [1] [.sl (Kd.int .i64) A0 c0 x0] rfl rfl) r54 hr54) ?_)
              rintro _ w362 a363 ⟨A360, c361, rfl, hk365⟩ hf364
              refine ⟨.inr (Gr.still hk365.cum.none), ?_⟩
              have hm366 := hm359.back hk365
              have hm367 := hm366.seal 0 _ rfl rfl
              refine all1 5 (by kernel_rfl) ?_
              refine opOf hf364 rfl (by kernel_rfl) (aMake (kd := Kd.bool) (x := false) (E := 4) (L := x1) (z := [.bool false]) (sz := 1) (d := 27) hf364 (by kernel_rfl) (by kernel_rfl) rfl (fun _ _ => rfl) g55.1 g55.2 ?_)
              intro A368 c369 w370 a371 ho373 hb375 hg374 hf372
              refine ⟨.inr (Gr.still hg374), ?_⟩
              have hm376 : Mem [] M w0 [.ow Kd.bool 4 A368 c369 (List.replicate (x1).toNat false), .sl (Kd.int .i64) A360 c361 r54, .ow kTensor 28 A162 c163 (List.replicate (x1).toNat (⟨([] : (List Int)), ([] : (List Nat))⟩ : Tensor)), .sl (Kd.int .i64) A0 c0 x0] w370 := hm367.own (ho373 _) hg374
              refine quiet0 [7] [] [29] #[true, true, true, true, true, true, true, true, false, false, false] [(29, .agg #[.slice A360 r54.length c361, .slice A162 ((List.replicate (x1).toNat (⟨([] : (List Int)), ([] : (List Nat))⟩ : Tensor)).length) c163, .slice A368 ((List.replicate (x1).toNat false).length) c369, .int .i64 x1])] [] 3 rfl (by kernel_rfl) (fun _ _ _ _ _ h => nomatch h.1) hf372 (by kernel_rfl) trivial fun a377 hf378 => ?_
              refine all1 8 (by kernel_rfl) ?_
              refine opOf hf378 rfl (by kernel_rfl) (aNew (cs := [.slice A360 r54.length c361, .slice A162 ((List.replicate (x1).toNat (⟨([] : (List Int)), ([] : (List Nat))⟩ : Tensor)).length) c163, .slice A368 ((List.replicate (x1).toNat false).length) c369, .int .i64 x1]) (T := 80) (d := 30) hf378 (by kernel_rfl) (by kernel_rfl) ?_)
              intro b379 w380 a381 hbb379 hx383 hg384 hf382
              refine ⟨.inr (Gr.still hg384), ?_⟩
              have hm385 := hm376.box hbb379 hx383 hg384
              refine quiet0 [9, 10] [] [4, 5] #[true, true, true, true, true, true, true, true, true, true, true] [(4, .pointer (some ⟨b379, 0, none⟩)), (5, .int .i64 0)] [] 0 rfl (by kernel_rfl) (fun _ _ _ _ _ h => nomatch h.1) hf382 (by kernel_rfl) trivial fun a386 hf387 => ?_
              refine allDone (by kernel_rfl) ⟨rfl, b379, A360, c361, A162, c163, A368, c369, hf387.sel (l := [4, 5]) (by kernel_rfl), hm385.sel [0, 1, 3, 2] _ rfl (by kernel_rfl)⟩
            · refine opOf hf358 rfl (by kernel_rfl) (aMake (kd := Kd.bool) (x := false) (E := 4) (L := x1) (z := [.bool false]) (sz := 1) (d := 27) hf358 (by kernel_rfl) (by kernel_rfl) rfl (fun _ _ => rfl) g55.1 g55.2 ?_)
              intro A388 c389 w390 a391 ho393 hb395 hg394 hf392
              refine ⟨.inr (Gr.still hg394), ?_⟩
              have hm396 : Mem [] M w0 [.ow Kd.bool 4 A388 c389 (List.replicate (x1).toNat false), .ow kTensor 28 A162 c163 (List.replicate (x1).toNat (⟨([] : (List Int)), ([] : (List Nat))⟩ : Tensor)), .sl (Kd.int .i64) A0 c0 x0] w390 := hm359.own (ho393 _) hg394
              refine all1 1 (by kernel_rfl) ?_
              refine opOf hf392 rfl (by kernel_rfl) (aCall (fid := 54) (args := [.slice A0 x0.length c0]) (d := 23) hf392 (by kernel_rfl) (by kernel_rfl) callable54 (slices_Clone_int.calls _ _ x0 A0 x0.length c0 rfl (hm396.give [2] [.sl (Kd.int .i64) A0 c0 x0] rfl rfl) r54 hr54) ?_)
              rintro _ w399 a400 ⟨A397, c398, rfl, hk402⟩ hf401
              refine ⟨.inr (Gr.still hk402.cum.none), ?_⟩
              have hm403 := hm396.back hk402
              have hm404 := hm403.seal 0 _ rfl rfl
              refine quiet0 [7] [] [29] #[true, true, true, true, true, true, true, true, false, false, false] [(29, .agg #[.slice A397 r54.length c398, .slice A162 ((List.replicate (x1).toNat (⟨([] : (List Int)), ([] : (List Nat))⟩ : Tensor)).length) c163, .slice A388 ((List.replicate (x1).toNat false).length) c389, .int .i64 x1])] [] 3 rfl (by kernel_rfl) (fun _ _ _ _ _ h => nomatch h.1) hf401 (by kernel_rfl) trivial fun a405 hf406 => ?_
              refine all1 8 (by kernel_rfl) ?_
              refine opOf hf406 rfl (by kernel_rfl) (aNew (cs := [.slice A397 r54.length c398, .slice A162 ((List.replicate (x1).toNat (⟨([] : (List Int)), ([] : (List Nat))⟩ : Tensor)).length) c163, .slice A388 ((List.replicate (x1).toNat false).length) c389, .int .i64 x1]) (T := 80) (d := 30) hf406 (by kernel_rfl) (by kernel_rfl) ?_)
              intro b407 w408 a409 hbb407 hx411 hg412 hf410
              refine ⟨.inr (Gr.still hg412), ?_⟩
              have hm413 := hm404.box hbb407 hx411 hg412
              refine quiet0 [9, 10] [] [4, 5] #[true, true, true, true, true, true, true, true, true, true, true] [(4, .pointer (some ⟨b407, 0, none⟩)), (5, .int .i64 0)] [] 0 rfl (by kernel_rfl) (fun _ _ _ _ _ h => nomatch h.1) hf410 (by kernel_rfl) trivial fun a414 hf415 => ?_
              refine allDone (by kernel_rfl) ⟨rfl, b407, A397, c398, A162, c163, A388, c389, hf415.sel (l := [4, 5]) (by kernel_rfl), hm413.sel [0, 2, 3, 1] _ rfl (by kernel_rfl)⟩
          refine memoStep (R := fun (a : Act) (w : World) => ∃ (A227 : Option Addr) (c228 : Nat), Fr 31 a [(22, .slice A0 x0.length c0), (24, .int .i64 x1), (26, .int .i64 x1), (27, .slice A227 ((List.replicate (x1).toNat false).length) c228), (28, .int .i64 x1)] ∧ Mem [] M w0 [.ow Kd.bool 4 A227 c228 (List.replicate (x1).toNat false), .sl (Kd.int .i64) A0 c0 x0] w) #[true, false, true, false, true, true, true, false, false, false, false] 6 ?_ fun L416 => ?_
          · rintro a417 w418 ⟨A227, c228, hf419, hm420⟩
            refine all2 1 3 (by kernel_rfl) ?_ ?_
            · refine opOf hf419 rfl (by kernel_rfl) (aCall (fid := 54) (args := [.slice A0 x0.length c0]) (d := 23) hf419 (by kernel_rfl) (by kernel_rfl) callable54 (slices_Clone_int.calls _ _ x0 A0 x0.length c0 rfl (hm420.give [1] [.sl (Kd.int .i64) A0 c0 x0] rfl rfl) r54 hr54) ?_)
              rintro _ w423 a424 ⟨A421, c422, rfl, hk426⟩ hf425
              refine ⟨.inr (Gr.still hk426.cum.none), ?_⟩
              have hm427 := hm420.back hk426
              have hm428 := hm427.seal 0 _ rfl rfl
              refine all1 3 (by kernel_rfl) ?_
              refine opOf hf425 rfl (by kernel_rfl) (aMake (kd := kTensor) (x := (⟨([] : (List Int)), ([] : (List Nat))⟩ : Tensor)) (E := 28) (L := x1) (z := [.slice none 0 0, .slice none 0 0]) (sz := 2) (d := 25) hf425 (by kernel_rfl) (by kernel_rfl) rfl (kTensor.zero) g55.1 g55.2 ?_)
              intro A429 c430 w431 a432 ho434 hb436 hg435 hf433
              refine ⟨.inr (Gr.still hg435), ?_⟩
              have hm437 : Mem [] M w0 [.ow kTensor 28 A429 c430 (List.replicate (x1).toNat (⟨([] : (List Int)), ([] : (List Nat))⟩ : Tensor)), .sl (Kd.int .i64) A421 c422 r54, .ow Kd.bool 4 A227 c228 (List.replicate (x1).toNat false), .sl (Kd.int .i64) A0 c0 x0] w431 := hm428.own (ho434 _) hg435
              refine quiet0 [7] [] [29] #[true, true, true, true, true, true, true, true, false, false, false] [(29, .agg #[.slice A421 r54.length c422, .slice A429 ((List.replicate (x1).toNat (⟨([] : (List Int)), ([] : (List Nat))⟩ : Tensor)).length) c430, .slice A227 ((List.replicate (x1).toNat false).length) c228, .int .i64 x1])] [] 3 rfl (by kernel_rfl) (fun _ _ _ _ _ h => nomatch h.1) hf433 (by kernel_rfl) trivial fun a438 hf439 => ?_
              refine all1 8 (by kernel_rfl) ?_
              refine opOf hf439 rfl (by kernel_rfl) (aNew (cs := [.slice A421 r54.length c422, .slice A429 ((List.replicate (x1).toNat (⟨([] : (List Int)), ([] : (List Nat))⟩ : Tensor)).length) c430, .slice A227 ((List.replicate (x1).toNat false).length) c228, .int .i64 x1]) (T := 80) (d := 30) hf439 (by kernel_rfl) (by kernel_rfl) ?_)
              intro b440 w441 a442 hbb440 hx444 hg445 hf443
              refine ⟨.inr (Gr.still hg445), ?_⟩
              have hm446 := hm437.box hbb440 hx444 hg445
              refine quiet0 [9, 10] [] [4, 5] #[true, true, true, true, true, true, true, true, true, true, true] [(4, .pointer (some ⟨b440, 0, none⟩)), (5, .int .i64 0)] [] 0 rfl (by kernel_rfl) (fun _ _ _ _ _ h => nomatch h.1) hf443 (by kernel_rfl) trivial fun a447 hf448 => ?_
              refine allDone (by kernel_rfl) ⟨rfl, b440, A421, c422, A429, c430, A227, c228, hf448.sel (l := [4, 5]) (by kernel_rfl), hm446.sel [0, 3, 1, 2] _ rfl (by kernel_rfl)⟩
            · refine opOf hf419 rfl (by kernel_rfl) (aMake (kd := kTensor) (x := (⟨([] : (List Int)), ([] : (List Nat))⟩ : Tensor)) (E := 28) (L := x1) (z := [.slice none 0 0, .slice none 0 0]) (sz := 2) (d := 25) hf419 (by kernel_rfl) (by kernel_rfl) rfl (kTensor.zero) g55.1 g55.2 ?_)
              intro A449 c450 w451 a452 ho454 hb456 hg455 hf453
              refine ⟨.inr (Gr.still hg455), ?_⟩
              have hm457 : Mem [] M w0 [.ow kTensor 28 A449 c450 (List.replicate (x1).toNat (⟨([] : (List Int)), ([] : (List Nat))⟩ : Tensor)), .ow Kd.bool 4 A227 c228 (List.replicate (x1).toNat false), .sl (Kd.int .i64) A0 c0 x0] w451 := hm420.own (ho454 _) hg455
              refine all1 1 (by kernel_rfl) ?_
              refine opOf hf453 rfl (by kernel_rfl) (aCall (fid := 54) (args := [.slice A0 x0.length c0]) (d := 23) hf453 (by kernel_rfl) (by kernel_rfl) callable54 (slices_Clone_int.calls _ _ x0 A0 x0.length c0 rfl (hm457.give [2] [.sl (Kd.int .i64) A0 c0 x0] rfl rfl) r54 hr54) ?_)
              rintro _ w460 a461 ⟨A458, c459, rfl, hk463⟩ hf462
              refine ⟨.inr (Gr.still hk463.cum.none), ?_⟩
              have hm464 := hm457.back hk463
              have hm465 := hm464.seal 0 _ rfl rfl
              refine quiet0 [7] [] [29] #[true, true, true, true, true, true, true, true, false, false, false] [(29, .agg #[.slice A458 r54.length c459, .slice A449 ((List.replicate (x1).toNat (⟨([] : (List Int)), ([] : (List Nat))⟩ : Tensor)).length) c450, .slice A227 ((List.replicate (x1).toNat false).length) c228, .int .i64 x1])] [] 3 rfl (by kernel_rfl) (fun _ _ _ _ _ h => nomatch h.1) hf462 (by kernel_rfl) trivial fun a466 hf467 => ?_
              refine all1 8 (by kernel_rfl) ?_
              refine opOf hf467 rfl (by kernel_rfl) (aNew (cs := [.slice A458 r54.length c459, .slice A449 ((List.replicate (x1).toNat (⟨([] : (List Int)), ([] : (List Nat))⟩ : Tensor)).length) c450, .slice A227 ((List.replicate (x1).toNat false).length) c228, .int .i64 x1]) (T := 80) (d := 30) hf467 (by kernel_rfl) (by kernel_rfl) ?_)
              intro b468 w469 a470 hbb468 hx472 hg473 hf471
              refine ⟨.inr (Gr.still hg473), ?_⟩
              have hm474 := hm465.box hbb468 hx472 hg473
              refine quiet0 [9, 10] [] [4, 5] #[true, true, true, true, true, true, true, true, true, true, true] [(4, .pointer (some ⟨b468, 0, none⟩)), (5, .int .i64 0)] [] 0 rfl (by kernel_rfl) (fun _ _ _ _ _ h => nomatch h.1) hf471 (by kernel_rfl) trivial fun a475 hf476 => ?_
              refine allDone (by kernel_rfl) ⟨rfl, b468, A458, c459, A449, c450, A227, c228, hf476.sel (l := [4, 5]) (by kernel_rfl), hm474.sel [0, 3, 2, 1] _ rfl (by kernel_rfl)⟩
          refine memoStep (R := fun (a : Act) (w : World) => Fr 31 a [(22, .slice A0 x0.length c0), (24, .int .i64 x1), (26, .int .i64 x1), (28, .int .i64 x1)] ∧ Mem [] M w0 [.sl (Kd.int .i64) A0 c0 x0] w) #[true, false, true, false, true, false, true, false, false, false, false] 7 ?_ fun L477 => ?_
          · rintro a478 w479 ⟨hf480, hm481⟩
            refine all3 1 3 5 (by kernel_rfl) ?_ ?_ ?_
            · refine opOf hf480 rfl (by kernel_rfl) (aCall (fid := 54) (args := [.slice A0 x0.length c0]) (d := 23) hf480 (by kernel_rfl) (by kernel_rfl) callable54 (slices_Clone_int.calls _ _ x0 A0 x0.length c0 rfl (hm481.give [0] [.sl (Kd.int .i64) A0 c0 x0] rfl rfl) r54 hr54) ?_)
              rintro _ w484 a485 ⟨A482, c483, rfl, hk487⟩ hf486
              refine ⟨.inr (Gr.still hk487.cum.none), ?_⟩
              have hm488 := hm481.back hk487
              have hm489 := hm488.seal 0 _ rfl rfl
              exact L292 _ _ ⟨A482, c483, hf486.sel (l := [22, 23, 24, 26, 28]) (by kernel_rfl), hm489.sel [0, 1] _ rfl (by kernel_rfl)⟩
            · refine opOf hf480 rfl (by kernel_rfl) (aMake (kd := kTensor) (x := (⟨([] : (List Int)), ([] : (List Nat))⟩ : Tensor)) (E := 28) (L := x1) (z := [.slice none 0 0, .slice none 0 0]) (sz := 2) (d := 25) hf480 (by kernel_rfl) (by kernel_rfl) rfl (kTensor.zero) g55.1 g55.2 ?_)
              intro A490 c491 w492 a493 ho495 hb497 hg496 hf494
              refine ⟨.inr (Gr.still hg496), ?_⟩
              have hm498 : Mem [] M w0 [.ow kTensor 28 A490 c491 (List.replicate (x1).toNat (⟨([] : (List Int)), ([] : (List Nat))⟩ : Tensor)), .sl (Kd.int .i64) A0 c0 x0] w492 := hm481.own (ho495 _) hg496
              exact L355 _ _ ⟨A490, c491, hf494.sel (l := [22, 24, 25, 26, 28]) (by kernel_rfl), hm498.sel [0, 1] _ rfl (by kernel_rfl)⟩
            · refine opOf hf480 rfl (by kernel_rfl) (aMake (kd := Kd.bool) (x := false) (E := 4) (L := x1) (z := [.bool false]) (sz := 1) (d := 27) hf480 (by kernel_rfl) (by kernel_rfl) rfl (fun _ _ => rfl) g55.1 g55.2 ?_)
              intro A499 c500 w501 a502 ho504 hb506 hg505 hf503
              refine ⟨.inr (Gr.still hg505), ?_⟩
              have hm507 : Mem [] M w0 [.ow Kd.bool 4 A499 c500 (List.replicate (x1).toNat false), .sl (Kd.int .i64) A0 c0 x0] w501 := hm481.own (ho504 _) hg505
              exact L416 _ _ ⟨A499, c500, hf503.sel (l := [22, 24, 26, 27, 28]) (by kernel_rfl), hm507.sel [0, 1] _ rfl (by kernel_rfl)⟩
          refine quiet0 [0, 2, 4, 6] [] [22, 24, 26, 28] #[true, false, true, false, true, false, true, false, false, false, false] [(22, .slice A0 x0.length c0), (24, .int .i64 x1), (26, .int .i64 x1), (28, .int .i64 x1)] [] 7 rfl (by kernel_rfl) (fun _ _ _ _ _ h => nomatch h.1) hf53 (by kernel_rfl) trivial fun a508 hf509 => ?_
          exact L477 _ _ ⟨hf509.sel (l := [22, 24, 26, 28]) (by kernel_rfl), hm93.sel [0] _ rfl (by kernel_rfl)⟩
        rintro a510 w511 ⟨b83, A56, c57, A65, c66, A74, c75, hf512, hm513⟩
        refine thenN ?_
        refine wp_ret ?_
        obtain rfl := Option.some.inj H0
        exact absurd hp (by simp)
  · refine reg [.bool true] [0, 1, 7, 14] [(0, .slice A0 x0.length c0), (1, .int .i64 x1), (7, .int .i64 r23.2), (14, .bool true)] [.is (((r23.2 : Int) != 0) = true)] hf32 (by kernel_rfl) ⟨(neT c33), trivial⟩ fun a514 hf515 => ?_
    refine thenN ?_
    refine condT hf515 (by kernel_rfl) ?_
    refine wp_seq ?_
    refine reg [] [4, 5] [(4, .pointer none), (5, .int .i64 r23.2)] [] hf515 (by kernel_rfl) trivial fun a516 hf517 => ?_
    have hm518 := hm30.sel [] _ rfl (by kernel_rfl)
    refine thenN ?_
    refine wp_ret ?_
    refine thenR ?_
    have hm519 : Mem [] M w0 [] w26 := hm518.sel [] _ rfl (by kernel_rfl)
    obtain rfl := Option.some.inj H0
    refine ret [] [.pointer none, .int .i64 r23.2] [] hf517 (by kernel_rfl) trivial ?_
    exact ⟨_, rfl, rfl, hm519⟩
theorem fold_New.calls_d (M : List (Option Nat)) (w0 : World) (x0 : (List Int)) (A0 : Option Addr) (n0 c0 : Nat) (e0 : n0 = x0.length) (x1 : Int) (hm0 : Mem [] M w0 [.sl (Kd.int .i64) A0 c0 x0] w0) (r : ((Option Slots) × Int)) (H0 : fold_New.f x0 x1 = some r) :
    Calls Try.prog 20 [.slice A0 n0 c0, .int .i64 x1].toArray w0 (fun x w' => ∃ v, x = .returned v ∧ ∃ p, v = .tuple #[p, .int .i64 r.2] ∧ Mem [] M w0 [] w') := by
  cases hp : r.1 with
  | none => exact (fold_New.calls_n M w0 x0 A0 n0 c0 e0 x1 hm0 r hp H0).mono (fun _ _ ⟨v, e, hv, hm⟩ => ⟨v, e, _, hv, hm⟩)
  | some y => exact (fold_New.calls_s M w0 x0 A0 n0 c0 e0 x1 hm0 r y hp H0).mono (fun _ _ ⟨v, e, bp, Aq_0, cq_0, Aq_1, cq_1, Aq_2, cq_2, hv, hm⟩ => ⟨v, e, _, hv, hm.sel [] _ rfl (by kernel_rfl)⟩)
end Go.Proofs.Ytkcgiolledmbnab
