/- Printed by gen.py. -/
import Derived.Test.YtkcgiolledmbnabF0
namespace Go.Proofs.Ytkcgiolledmbnab
open Go Go.RowKit
set_option linter.unusedSimpArgs false
set_option linter.unusedVariables false
set_option linter.unnecessarySimpa false
/-! ### backstitch/fold.New -/
noncomputable def fold_New.f (x0 : (List Int)) (x1 : Int) : Option ((Option Slots) × Int) :=
  (shape_Size.f x0).bind fun r23 =>
  if r23.2 = 0 then (if x1 < 0 then (some (none, 1))
  else (if 1024 < x1 then (some (none, 1))
  else ((slices_Clone_int.f x0).bind fun r54 =>
  if 0 ≤ x1 ∧ x1 ≤ 1099511627776 then (some ((some (⟨r54, (List.replicate (x1).toNat (⟨([] : (List Int)), ([] : (List Nat))⟩ : Tensor)), (List.replicate (x1).toNat false), x1⟩ : Slots)), 0))
  else none)))
  else (some (none, r23.2))
set_option maxRecDepth 100000 in
set_option maxHeartbeats 4000000 in
theorem fold_New.calls_x (M : List (Option Nat)) (w0 : World) (x0 : (List Int)) (A0 : Option Addr) (n0 c0 : Nat) (e0 : n0 = x0.length) (x1 : Int) (hm0 : Mem [] M w0 [.sl (Kd.int .i64) A0 c0 x0] w0) (r : ((Option Slots) × Int)) (H0 : fold_New.f x0 x1 = some r) :
    Calls Try.prog 20 [.slice A0 n0 c0, .int .i64 x1].toArray w0 (fun x w' => PtrP (r.1) (∃ v, x = .returned v ∧ v = .tuple #[.pointer none, .int .i64 r.2] ∧ Mem [] M w0 [] w') (fun (y : Slots) => ∃ v, x = .returned v ∧ ∃ bp Aq_0 cq_0 Aq_1 cq_1 Aq_2 cq_2, v = .tuple #[.pointer (some ⟨bp, 0, none⟩), .int .i64 r.2] ∧ Mem [] M w0 [.bx bp [.slice Aq_0 y.s.length cq_0, .slice Aq_1 y.l.length cq_1, .slice Aq_2 y.filled.length cq_2, .int .i64 y.left] 80, .sl (Kd.int .i64) Aq_0 cq_0 y.s, .ow kTensor 28 Aq_1 cq_1 y.l, .ow Kd.bool 4 Aq_2 cq_2 y.filled] w')) := by
  subst e0
  unfold fold_New.f at H0
  refine enter (n := 31) Try.func20 rfl rfl (by kernel_rfl) fun a0 (hf0 : Fr 31 a0 [(0, .slice A0 x0.length c0), (1, .int .i64 x1)]) => ?_
  refine wp_seq ?_
  refine reg [] [0, 1] [(0, .slice A0 x0.length c0), (1, .int .i64 x1)] [] hf0 (by kernel_rfl) trivial fun a21 hf22 => ?_
  refine thenN ?_
  refine wp_seq ?_
  refine wp_seq ?_
  obtain ⟨r23, hr23, H0⟩ := ob_split H0
  refine inReg ?_
  refine go 1 [] [0, 1, 9] [(0, .slice A0 x0.length c0), (1, .int .i64 x1), (9, .slice A0 x0.length c0)] [] hf22 (by kernel_rfl) trivial fun a24 hf25 => ?_
  refine listOf hf25 rfl (by kernel_rfl) (aCall (fid := 53) (args := [.slice A0 x0.length c0]) (d := 10) hf25 (by kernel_rfl) (by kernel_rfl) callable53 (shape_Size.calls _ _ x0 A0 x0.length c0 rfl (hm0.give [0] [.sl (Kd.int .i64) A0 c0 x0] rfl rfl) r23 hr23) ?_)
  rintro _ w26 a27 ⟨rfl, hk29⟩ hf28
  have hm30 := hm0.still hk29.cum.none
  refine go 5 [] [0, 1, 7] [(0, .slice A0 x0.length c0), (1, .int .i64 x1), (7, .int .i64 r23.2)] [] hf28 (by kernel_rfl) trivial fun a31 hf32 => ?_
  refine endL rfl ?_
  refine thenN ?_
  refine wp_seq ?_
  rcases if_split H0 with ⟨c33, H0⟩ | ⟨c33, H0⟩
  rotate_left
  · refine reg [.bool true] [0, 1, 7, 14] [(0, .slice A0 x0.length c0), (1, .int .i64 x1), (7, .int .i64 r23.2), (14, .bool true)] [.is (((r23.2 : Int) != 0) = true)] hf32 (by kernel_rfl) ⟨(neT c33), trivial⟩ fun a516 hf517 => ?_
    refine thenN ?_
    refine condT hf517 (by kernel_rfl) ?_
    refine wp_seq ?_
    refine reg [] [4, 5] [(4, .pointer none), (5, .int .i64 r23.2)] [] hf517 (by kernel_rfl) trivial fun a518 hf519 => ?_
    have hm520 := hm30.sel [] _ rfl (by kernel_rfl)
    refine thenN ?_
    refine wp_ret ?_
    refine thenR ?_
    have hm521 : Mem [] M w0 [] w26 := hm520.sel [] _ rfl (by kernel_rfl)
    obtain rfl := Option.some.inj H0
    refine ret [] [.pointer none, .int .i64 r23.2] [] hf519 (by kernel_rfl) trivial ?_
    exact PtrP_no ⟨_, rfl, rfl, hm521⟩
  refine reg [.bool false] [0, 1, 7, 14] [(0, .slice A0 x0.length c0), (1, .int .i64 x1), (7, .int .i64 r23.2), (14, .bool false)] [.is (((r23.2 : Int) != 0) = false)] hf32 (by kernel_rfl) ⟨(neF c33), trivial⟩ fun a34 hf35 => ?_
  refine thenN ?_
  refine condF hf35 (by kernel_rfl) ?_
  refine wp_skip ?_
  refine thenN ?_
  refine wp_seq ?_
  refine wp_seq ?_
  rcases if_split H0 with ⟨c36, H0⟩ | ⟨c36, H0⟩
  · refine reg [.bool true] [0, 1, 21] [(0, .slice A0 x0.length c0), (1, .int .i64 x1), (21, .bool true)] [.is (decide (x1 < 0) = true)] hf35 (by kernel_rfl) ⟨(decide_eq_true c36), trivial⟩ fun a37 hf38 => ?_
    refine thenN ?_
    refine condT hf38 (by kernel_rfl) ?_
    refine wp_seq ?_
    refine reg [] [4, 5] [(4, .pointer none), (5, .int .i64 1)] [] hf38 (by kernel_rfl) trivial fun a39 hf40 => ?_
    have hm41 := hm30.sel [] _ rfl (by kernel_rfl)
    refine thenN ?_
    refine wp_ret ?_
    refine thenR ?_
    have hm42 : Mem [] M w0 [] w26 := hm41.sel [] _ rfl (by kernel_rfl)
    obtain rfl := Option.some.inj H0
    refine ret [] [.pointer none, .int .i64 1] [] hf40 (by kernel_rfl) trivial ?_
    exact PtrP_no ⟨_, rfl, rfl, hm42⟩
  rcases if_split H0 with ⟨c44, H0⟩ | ⟨c44, H0⟩
  · refine reg [.bool false, .bool true] [0, 1, 21] [(0, .slice A0 x0.length c0), (1, .int .i64 x1), (21, .bool true)] [.is (decide (x1 < 0) = false), .is (decide (1024 < x1) = true)] hf35 (by kernel_rfl) ⟨(decide_eq_false c36), (decide_eq_true c44), trivial⟩ fun a45 hf46 => ?_
    refine thenN ?_
    refine condT hf46 (by kernel_rfl) ?_
    refine wp_seq ?_
    refine reg [] [4, 5] [(4, .pointer none), (5, .int .i64 1)] [] hf46 (by kernel_rfl) trivial fun a47 hf48 => ?_
    have hm49 := hm30.sel [] _ rfl (by kernel_rfl)
    refine thenN ?_
    refine wp_ret ?_
    refine thenR ?_
    have hm50 : Mem [] M w0 [] w26 := hm49.sel [] _ rfl (by kernel_rfl)
    obtain rfl := Option.some.inj H0
    refine ret [] [.pointer none, .int .i64 1] [] hf48 (by kernel_rfl) trivial ?_
    exact PtrP_no ⟨_, rfl, rfl, hm50⟩
  refine reg [.bool false, .bool false] [0, 1, 21] [(0, .slice A0 x0.length c0), (1, .int .i64 x1), (21, .bool false)] [.is (decide (x1 < 0) = false), .is (decide (1024 < x1) = false)] hf35 (by kernel_rfl) ⟨(decide_eq_false c36), (decide_eq_false c44), trivial⟩ fun a52 hf53 => ?_
  refine thenN ?_
  refine condF hf53 (by kernel_rfl) ?_
  refine wp_skip ?_
  refine thenN ?_
  refine wp_seq ?_
  obtain ⟨r54, hr54, H0⟩ := ob_split H0
  obtain ⟨g55, H0⟩ := if_guard H0
  refine midReg (fun (a : Act) (w : World) => ∃ (b83 : Nat) (A56 : Option Addr) (c57 : Nat) (A65 : Option Addr) (c66 : Nat) (A74 : Option Addr) (c75 : Nat), Fr 31 a [(4, .pointer (some ⟨b83, 0, none⟩)), (5, .int .i64 0)] ∧ Mem [] M w0 [.bx b83 [.slice A56 r54.length c57, .slice A65 ((List.replicate (x1).toNat (⟨([] : (List Int)), ([] : (List Nat))⟩ : Tensor)).length) c66, .slice A74 ((List.replicate (x1).toNat false).length) c75, .int .i64 x1] 80, .ow Kd.bool 4 A74 c75 (List.replicate (x1).toNat false), .ow kTensor 28 A65 c66 (List.replicate (x1).toNat (⟨([] : (List Int)), ([] : (List Nat))⟩ : Tensor)), .sl (Kd.int .i64) A56 c57 r54] w) ?_ ?_
  · refine anyG [] (by kernel_rfl) fun w91 hg92 => ?_
    have hm93 := hm30.still hg92
    refine memoStep (R := fun (a : Act) (w : World) => ∃ (A96 : Option Addr) (c97 : Nat), Fr 31 a [(22, .slice A0 x0.length c0), (23, .slice A96 r54.length c97), (24, .int .i64 x1), (26, .int .i64 x1), (28, .int .i64 x1)] ∧ Mem [] M w0 [.sl (Kd.int .i64) A96 c97 r54, .sl (Kd.int .i64) A0 c0 x0] w) #[true, true, true, false, true, false, true, false, false, false, false] 6 ?_ fun L292 => ?_
    · rintro a293 w294 ⟨A96, c97, hf295, hm296⟩
      refine all2 3 5 (by kernel_rfl) ?_ ?_
      · refine opOf hf295 rfl (by kernel_rfl) (aMake (kd := kTensor) (x := (⟨([] : (List Int)), ([] : (List Nat))⟩ : Tensor)) (E := 28) (L := x1) (z := [.slice none 0 0, .slice none 0 0]) (sz := 2) (d := 25) hf295 (by kernel_rfl) (by kernel_rfl) rfl (kTensor.zero) g55.1 g55.2 ?_)
        intro A297 c298 w299 a300 ho302 hb304 hg303 hf301
        refine ⟨.inr (Gr.still hg303), ?_⟩
        have hm305 : Mem [] M w0 [.ow kTensor 28 A297 c298 (List.replicate (x1).toNat (⟨([] : (List Int)), ([] : (List Nat))⟩ : Tensor)), .sl (Kd.int .i64) A96 c97 r54, .sl (Kd.int .i64) A0 c0 x0] w299 := hm296.own (ho302 _) hg303
        refine all1 5 (by kernel_rfl) ?_
        refine opOf hf301 rfl (by kernel_rfl) (aMake (kd := Kd.bool) (x := false) (E := 4) (L := x1) (z := [.bool false]) (sz := 1) (d := 27) hf301 (by kernel_rfl) (by kernel_rfl) rfl (fun _ _ => rfl) g55.1 g55.2 ?_)
        intro A306 c307 w308 a309 ho311 hb313 hg312 hf310
        refine ⟨.inr (Gr.still hg312), ?_⟩
        have hm314 : Mem [] M w0 [.ow Kd.bool 4 A306 c307 (List.replicate (x1).toNat false), .ow kTensor 28 A297 c298 (List.replicate (x1).toNat (⟨([] : (List Int)), ([] : (List Nat))⟩ : Tensor)), .sl (Kd.int .i64) A96 c97 r54, .sl (Kd.int .i64) A0 c0 x0] w308 := hm305.own (ho311 _) hg312
        refine quiet0 [7] [] [29] #[true, true, true, true, true, true, true, true, false, false, false] [(29, .agg #[.slice A96 r54.length c97, .slice A297 ((List.replicate (x1).toNat (⟨([] : (List Int)), ([] : (List Nat))⟩ : Tensor)).length) c298, .slice A306 ((List.replicate (x1).toNat false).length) c307, .int .i64 x1])] [] 3 rfl (by kernel_rfl) (fun _ _ _ _ _ h => nomatch h.1) hf310 (by kernel_rfl) trivial fun a315 hf316 => ?_
        refine all1 8 (by kernel_rfl) ?_
        refine opOf hf316 rfl (by kernel_rfl) (aNew (cs := [.slice A96 r54.length c97, .slice A297 ((List.replicate (x1).toNat (⟨([] : (List Int)), ([] : (List Nat))⟩ : Tensor)).length) c298, .slice A306 ((List.replicate (x1).toNat false).length) c307, .int .i64 x1]) (T := 80) (d := 30) hf316 (by kernel_rfl) (by kernel_rfl) ?_)
        intro b317 w318 a319 hbb317 hx321 hg322 hf320
        refine ⟨.inr (Gr.still hg322), ?_⟩
        have hm323 := hm314.box hbb317 hx321 hg322
        refine quiet0 [9, 10] [] [4, 5] #[true, true, true, true, true, true, true, true, true, true, true] [(4, .pointer (some ⟨b317, 0, none⟩)), (5, .int .i64 0)] [] 0 rfl (by kernel_rfl) (fun _ _ _ _ _ h => nomatch h.1) hf320 (by kernel_rfl) trivial fun a324 hf325 => ?_
        refine allDone (by kernel_rfl) ⟨rfl, b317, A96, c97, A297, c298, A306, c307, hf325.sel (l := [4, 5]) (by kernel_rfl), hm323.sel [0, 1, 2, 3] _ rfl (by kernel_rfl)⟩
      · refine opOf hf295 rfl (by kernel_rfl) (aMake (kd := Kd.bool) (x := false) (E := 4) (L := x1) (z := [.bool false]) (sz := 1) (d := 27) hf295 (by kernel_rfl) (by kernel_rfl) rfl (fun _ _ => rfl) g55.1 g55.2 ?_)
        intro A326 c327 w328 a329 ho331 hb333 hg332 hf330
        refine ⟨.inr (Gr.still hg332), ?_⟩
        have hm334 : Mem [] M w0 [.ow Kd.bool 4 A326 c327 (List.replicate (x1).toNat false), .sl (Kd.int .i64) A96 c97 r54, .sl (Kd.int .i64) A0 c0 x0] w328 := hm296.own (ho331 _) hg332
        refine all1 3 (by kernel_rfl) ?_
        refine opOf hf330 rfl (by kernel_rfl) (aMake (kd := kTensor) (x := (⟨([] : (List Int)), ([] : (List Nat))⟩ : Tensor)) (E := 28) (L := x1) (z := [.slice none 0 0, .slice none 0 0]) (sz := 2) (d := 25) hf330 (by kernel_rfl) (by kernel_rfl) rfl (kTensor.zero) g55.1 g55.2 ?_)
        intro A335 c336 w337 a338 ho340 hb342 hg341 hf339
        refine ⟨.inr (Gr.still hg341), ?_⟩
        have hm343 : Mem [] M w0 [.ow kTensor 28 A335 c336 (List.replicate (x1).toNat (⟨([] : (List Int)), ([] : (List Nat))⟩ : Tensor)), .ow Kd.bool 4 A326 c327 (List.replicate (x1).toNat false), .sl (Kd.int .i64) A96 c97 r54, .sl (Kd.int .i64) A0 c0 x0] w337 := hm334.own (ho340 _) hg341
        refine quiet0 [7] [] [29] #[true, true, true, true, true, true, true, true, false, false, false] [(29, .agg #[.slice A96 r54.length c97, .slice A335 ((List.replicate (x1).toNat (⟨([] : (List Int)), ([] : (List Nat))⟩ : Tensor)).length) c336, .slice A326 ((List.replicate (x1).toNat false).length) c327, .int .i64 x1])] [] 3 rfl (by kernel_rfl) (fun _ _ _ _ _ h => nomatch h.1) hf339 (by kernel_rfl) trivial fun a344 hf345 => ?_
        refine all1 8 (by kernel_rfl) ?_
        refine opOf hf345 rfl (by kernel_rfl) (aNew (cs := [.slice A96 r54.length c97, .slice A335 ((List.replicate (x1).toNat (⟨([] : (List Int)), ([] : (List Nat))⟩ : Tensor)).length) c336, .slice A326 ((List.replicate (x1).toNat false).length) c327, .int .i64 x1]) (T := 80) (d := 30) hf345 (by kernel_rfl) (by kernel_rfl) ?_)
        intro b346 w347 a348 hbb346 hx350 hg351 hf349
        refine ⟨.inr (Gr.still hg351), ?_⟩
        have hm352 := hm343.box hbb346 hx350 hg351
        refine quiet0 [9, 10] [] [4, 5] #[true, true, true, true, true, true, true, true, true, true, true] [(4, .pointer (some ⟨b346, 0, none⟩)), (5, .int .i64 0)] [] 0 rfl (by kernel_rfl) (fun _ _ _ _ _ h => nomatch h.1) hf349 (by kernel_rfl) trivial fun a353 hf354 => ?_
        refine allDone (by kernel_rfl) ⟨rfl, b346, A96, c97, A335, c336, A326, c327, hf354.sel (l := [4, 5]) (by kernel_rfl), hm352.sel [0, 2, 1, 3] _ rfl (by kernel_rfl)⟩
    refine memoStep (R := fun (a : Act) (w : World) => ∃ (A162 : Option Addr) (c163 : Nat), Fr 31 a [(22, .slice A0 x0.length c0), (24, .int .i64 x1), (25, .slice A162 ((List.replicate (x1).toNat (⟨([] : (List Int)), ([] : (List Nat))⟩ : Tensor)).length) c163), (26, .int .i64 x1), (28, .int .i64 x1)] ∧ Mem [] M w0 [.ow kTensor 28 A162 c163 (List.replicate (x1).toNat (⟨([] : (List Int)), ([] : (List Nat))⟩ : Tensor)), .sl (Kd.int .i64) A0 c0 x0] w) #[true, false, true, true, true, false, true, false, false, false, false] 6 ?_ fun L355 => ?_
    · rintro a356 w357 ⟨A162, c163, hf358, hm359⟩
      refine all2 1 5 (by kernel_rfl) ?_ ?_
      · refine opOf hf358 rfl (by kernel_rfl) (aCall (fid := 54) (args := [.slice A0 x0.length c0]) (d := 23) hf358 (by kernel_rfl) (by kernel_rfl) callable54 (slices_Clone_int.calls _ _ x0 A0 x0.length c0 rfl (hm359.give [1] [.sl (Kd.int .i64) A0 c0 x0] rfl rfl) r54 hr54) ?_)
        rintro _ w362 a363 ⟨A360, c361, rfl, hk365⟩ hf364
        refine ⟨.inr (Gr.still hk365.cum.none), ?_⟩
        have hm366 := hm359.back hk365
        have hm367 := hm366.seal 0 _ rfl rfl
        refine all1 5 (by kernel_rfl) ?_
        refine opOf hf364 rfl (by kernel_rfl) (aMake (kd := Kd.bool) (x := false) (E := 4) (L := x1) (z := [.bool false]) (sz := 1) (d := 27) hf364 (by kernel_rfl) (by kernel_rfl) rfl (fun _ _ => rfl) g55.1 g55.2 ?_)
        intro A368 c369 w370 a371 ho373 hb375 hg374 hf372
        refine ⟨.inr (Gr.still hg374), ?_⟩
        have hm376 : Mem [] M w0 [.ow Kd.bool 4 A368 c369 (List.replicate (x1).toNat false), .sl (Kd.int .i64) A360 c361 r54, .ow kTensor 28 A162 c163 (List.replicate (x1).toNat (⟨([] : (List Int)), ([] : (List Nat))⟩ : Tensor)), .sl (Kd.int .i64) A0 c0 x0] w370 := hm367.own (ho373 _) hg374
        refine quiet0 [7] [] [29] #[true, true, true, true, true, true, true, true, false, false, false] [(29, .agg #[.slice A360 r54.length c361, .slice A162 ((List.replicate (x1).toNat (⟨([] : (List Int)), ([] : (List Nat))⟩ : Tensor)).length) c163, .slice A368 ((List.replicate (x1).toNat false).length) c369, .int .i64 x1])] [] 3 rfl (by kernel_rfl) (fun _ _ _ _ _ h => nomatch h.1) hf372 (by kernel_rfl) trivial fun a377 hf378 => ?_
        refine all1 8 (by kernel_rfl) ?_
        refine opOf hf378 rfl (by kernel_rfl) (aNew (cs := [.slice A360 r54.length c361, .slice A162 ((List.replicate (x1).toNat (⟨([] : (List Int)), ([] : (List Nat))⟩ : Tensor)).length) c163, .slice A368 ((List.replicate (x1).toNat false).length) c369, .int .i64 x1]) (T := 80) (d := 30) hf378 (by kernel_rfl) (by kernel_rfl) ?_)
        intro b379 w380 a381 hbb379 hx383 hg384 hf382
        refine ⟨.inr (Gr.still hg384), ?_⟩
        have hm385 := hm376.box hbb379 hx383 hg384
        refine quiet0 [9, 10] [] [4, 5] #[true, true, true, true, true, true, true, true, true, true, true] [(4, .pointer (some ⟨b379, 0, none⟩)), (5, .int .i64 0)] [] 0 rfl (by kernel_rfl) (fun _ _ _ _ _ h => nomatch h.1) hf382 (by kernel_rfl) trivial fun a386 hf387 => ?_
        refine allDone (by kernel_rfl) ⟨rfl, b379, A360, c361, A162, c163, A368, c369, hf387.sel (l := [4, 5]) (by kernel_rfl), hm385.sel [0, 1, 3, 2] _ rfl (by kernel_rfl)⟩
      · refine opOf hf358 rfl (by kernel_rfl) (aMake (kd := Kd.bool) (x := false) (E := 4) (L := x1) (z := [.bool false]) (sz := 1) (d := 27) hf358 (by kernel_rfl) (by kernel_rfl) rfl (fun _ _ => rfl) g55.1 g55.2 ?_)
        intro A388 c389 w390 a391 ho393 hb395 hg394 hf392
        refine ⟨.inr (Gr.still hg394), ?_⟩
        have hm396 : Mem [] M w0 [.ow Kd.bool 4 A388 c389 (List.replicate (x1).toNat false), .ow kTensor 28 A162 c163 (List.replicate (x1).toNat (⟨([] : (List Int)), ([] : (List Nat))⟩ : Tensor)), .sl (Kd.int .i64) A0 c0 x0] w390 := hm359.own (ho393 _) hg394
        refine all1 1 (by kernel_rfl) ?_
        refine opOf hf392 rfl (by kernel_rfl) (aCall (fid := 54) (args := [.slice A0 x0.length c0]) (d := 23) hf392 (by kernel_rfl) (by kernel_rfl) callable54 (slices_Clone_int.calls _ _ x0 A0 x0.length c0 rfl (hm396.give [2] [.sl (Kd.int .i64) A0 c0 x0] rfl rfl) r54 hr54) ?_)
        rintro _ w399 a400 ⟨A397, c398, rfl, hk402⟩ hf401
        refine ⟨.inr (Gr.still hk402.cum.none), ?_⟩
        have hm403 := hm396.back hk402
        have hm404 := hm403.seal 0 _ rfl rfl
        refine quiet0 [7] [] [29] #[true, true, true, true, true, true, true, true, false, false, false] [(29, .agg #[.slice A397 r54.length c398, .slice A162 ((List.replicate (x1).toNat (⟨([] : (List Int)), ([] : (List Nat))⟩ : Tensor)).length) c163, .slice A388 ((List.replicate (x1).toNat false).length) c389, .int .i64 x1])] [] 3 rfl (by kernel_rfl) (fun _ _ _ _ _ h => nomatch h.1) hf401 (by kernel_rfl) trivial fun a405 hf406 => ?_
        refine all1 8 (by kernel_rfl) ?_
        refine opOf hf406 rfl (by kernel_rfl) (aNew (cs := [.slice A397 r54.length c398, .slice A162 ((List.replicate (x1).toNat (⟨([] : (List Int)), ([] : (List Nat))⟩ : Tensor)).length) c163, .slice A388 ((List.replicate (x1).toNat false).length) c389, .int .i64 x1]) (T := 80) (d := 30) hf406 (by kernel_rfl) (by kernel_rfl) ?_)
        intro b407 w408 a409 hbb407 hx411 hg412 hf410
        refine ⟨.inr (Gr.still hg412), ?_⟩
        have hm413 := hm404.box hbb407 hx411 hg412
        refine quiet0 [9, 10] [] [4, 5] #[true, true, true, true, true, true, true, true, true, true, true] [(4, .pointer (some ⟨b407, 0, none⟩)), (5, .int .i64 0)] [] 0 rfl (by kernel_rfl) (fun _ _ _ _ _ h => nomatch h.1) hf410 (by kernel_rfl) trivial fun a414 hf415 => ?_
        refine allDone (by kernel_rfl) ⟨rfl, b407, A397, c398, A162, c163, A388, c389, hf415.sel (l := [4, 5]) (by kernel_rfl), hm413.sel [0, 2, 3, 1] _ rfl (by kernel_rfl)⟩
    refine memoStep (R := fun (a : Act) (w : World) => ∃ (A227 : Option Addr) (c228 : Nat), Fr 31 a [(22, .slice A0 x0.length c0), (24, .int .i64 x1), (26, .int .i64 x1), (27, .slice A227 ((List.replicate (x1).toNat false).length) c228), (28, .int .i64 x1)] ∧ Mem [] M w0 [.ow Kd.bool 4 A227 c228 (List.replicate (x1).toNat false), .sl (Kd.int .i64) A0 c0 x0] w) #[true, false, true, false, true, true, true, false, false, false, false] 6 ?_ fun L416 => ?_
    · rintro a417 w418 ⟨A227, c228, hf419, hm420⟩
      refine all2 1 3 (by kernel_rfl) ?_ ?_
      · refine opOf hf419 rfl (by kernel_rfl) (aCall (fid := 54) (args := [.slice A0 x0.length c0]) (d := 23) hf419 (by kernel_rfl) (by kernel_rfl) callable54 (slices_Clone_int.calls _ _ x0 A0 x0.length c0 rfl (hm420.give [1] [.sl (Kd.int .i64) A0 c0 x0] rfl rfl) r54 hr54) ?_)
        rintro _ w423 a424 ⟨A421, c422, rfl, hk426⟩ hf425
        refine ⟨.inr (Gr.still hk426.cum.none), ?_⟩
        have hm427 := hm420.back hk426
        have hm428 := hm427.seal 0 _ rfl rfl
        refine all1 3 (by kernel_rfl) ?_
        refine opOf hf425 rfl (by kernel_rfl) (aMake (kd := kTensor) (x := (⟨([] : (List Int)), ([] : (List Nat))⟩ : Tensor)) (E := 28) (L := x1) (z := [.slice none 0 0, .slice none 0 0]) (sz := 2) (d := 25) hf425 (by kernel_rfl) (by kernel_rfl) rfl (kTensor.zero) g55.1 g55.2 ?_)
        intro A429 c430 w431 a432 ho434 hb436 hg435 hf433
        refine ⟨.inr (Gr.still hg435), ?_⟩
        have hm437 : Mem [] M w0 [.ow kTensor 28 A429 c430 (List.replicate (x1).toNat (⟨([] : (List Int)), ([] : (List Nat))⟩ : Tensor)), .sl (Kd.int .i64) A421 c422 r54, .ow Kd.bool 4 A227 c228 (List.replicate (x1).toNat false), .sl (Kd.int .i64) A0 c0 x0] w431 := hm428.own (ho434 _) hg435
        refine quiet0 [7] [] [29] #[true, true, true, true, true, true, true, true, false, false, false] [(29, .agg #[.slice A421 r54.length c422, .slice A429 ((List.replicate (x1).toNat (⟨([] : (List Int)), ([] : (List Nat))⟩ : Tensor)).length) c430, .slice A227 ((List.replicate (x1).toNat false).length) c228, .int .i64 x1])] [] 3 rfl (by kernel_rfl) (fun _ _ _ _ _ h => nomatch h.1) hf433 (by kernel_rfl) trivial fun a438 hf439 => ?_
        refine all1 8 (by kernel_rfl) ?_
        refine opOf hf439 rfl (by kernel_rfl) (aNew (cs := [.slice A421 r54.length c422, .slice A429 ((List.replicate (x1).toNat (⟨([] : (List Int)), ([] : (List Nat))⟩ : Tensor)).length) c430, .slice A227 ((List.replicate (x1).toNat false).length) c228, .int .i64 x1]) (T := 80) (d := 30) hf439 (by kernel_rfl) (by kernel_rfl) ?_)
        intro b440 w441 a442 hbb440 hx444 hg445 hf443
        refine ⟨.inr (Gr.still hg445), ?_⟩
        have hm446 := hm437.box hbb440 hx444 hg445
        refine quiet0 [9, 10] [] [4, 5] #[true, true, true, true, true, true, true, true, true, true, true] [(4, .pointer (some ⟨b440, 0, none⟩)), (5, .int .i64 0)] [] 0 rfl (by kernel_rfl) (fun _ _ _ _ _ h => nomatch h.1) hf443 (by kernel_rfl) trivial fun a447 hf448 => ?_
        refine allDone (by kernel_rfl) ⟨rfl, b440, A421, c422, A429, c430, A227, c228, hf448.sel (l := [4, 5]) (by kernel_rfl), hm446.sel [0, 3, 1, 2] _ rfl (by kernel_rfl)⟩
      · refine opOf hf419 rfl (by kernel_rfl) (aMake (kd := kTensor) (x := (⟨([] : (List Int)), ([] : (List Nat))⟩ : Tensor)) (E := 28) (L := x1) (z := [.slice none 0 0, .slice none 0 0]) (sz := 2) (d := 25) hf419 (by kernel_rfl) (by kernel_rfl) rfl (kTensor.zero) g55.1 g55.2 ?_)
        intro A449 c450 w451 a452 ho454 hb456 hg455 hf453
        refine ⟨.inr (Gr.still hg455), ?_⟩
        have hm457 : Mem [] M w0 [.ow kTensor 28 A449 c450 (List.replicate (x1).toNat (⟨([] : (List Int)), ([] : (List Nat))⟩ : Tensor)), .ow Kd.bool 4 A227 c228 (List.replicate (x1).toNat false), .sl (Kd.int .i64) A0 c0 x0] w451 := hm420.own (ho454 _) hg455
        refine all1 1 (by kernel_rfl) ?_
        refine opOf hf453 rfl (by kernel_rfl) (aCall (fid := 54) (args := [.slice A0 x0.length c0]) (d := 23) hf453 (by kernel_rfl) (by kernel_rfl) callable54 (slices_Clone_int.calls _ _ x0 A0 x0.length c0 rfl (hm457.give [2] [.sl (Kd.int .i64) A0 c0 x0] rfl rfl) r54 hr54) ?_)
        rintro _ w460 a461 ⟨A458, c459, rfl, hk463⟩ hf462
        refine ⟨.inr (Gr.still hk463.cum.none), ?_⟩
        have hm464 := hm457.back hk463
        have hm465 := hm464.seal 0 _ rfl rfl
        refine quiet0 [7] [] [29] #[true, true, true, true, true, true, true, true, false, false, false] [(29, .agg #[.slice A458 r54.length c459, .slice A449 ((List.replicate (x1).toNat (⟨([] : (List Int)), ([] : (List Nat))⟩ : Tensor)).length) c450, .slice A227 ((List.replicate (x1).toNat false).length) c228, .int .i64 x1])] [] 3 rfl (by kernel_rfl) (fun _ _ _ _ _ h => nomatch h.1) hf462 (by kernel_rfl) trivial fun a466 hf467 => ?_
        refine all1 8 (by kernel_rfl) ?_
        refine opOf hf467 rfl (by kernel_rfl) (aNew (cs := [.slice A458 r54.length c459, .slice A449 ((List.replicate (x1).toNat (⟨([] : (List Int)), ([] : (List Nat))⟩ : Tensor)).length) c450, .slice A227 ((List.replicate (x1).toNat false).length) c228, .int .i64 x1]) (T := 80) (d := 30) hf467 (by kernel_rfl) (by kernel_rfl) ?_)
        intro b468 w469 a470 hbb468 hx472 hg473 hf471
        refine ⟨.inr (Gr.still hg473), ?_⟩
        have hm474 := hm465.box hbb468 hx472 hg473
        refine quiet0 [9, 10] [] [4, 5] #[true, true, true, true, true, true, true, true, true, true, true] [(4, .pointer (some ⟨b468, 0, none⟩)), (5, .int .i64 0)] [] 0 rfl (by kernel_rfl) (fun _ _ _ _ _ h => nomatch h.1) hf471 (by kernel_rfl) trivial fun a475 hf476 => ?_
        refine allDone (by kernel_rfl) ⟨rfl, b468, A458, c459, A449, c450, A227, c228, hf476.sel (l := [4, 5]) (by kernel_rfl), hm474.sel [0, 3, 2, 1] _ rfl (by kernel_rfl)⟩
    refine memoStep (R := fun (a : Act) (w : World) => Fr 31 a [(22, .slice A0 x0.length c0), (24, .int .i64 x1), (26, .int .i64 x1), (28, .int .i64 x1)] ∧ Mem [] M w0 [.sl (Kd.int .i64) A0 c0 x0] w) #[true, false, true, false, true, false, true, false, false, false, false] 7 ?_ fun L477 => ?_
    · rintro a478 w479 ⟨hf480, hm481⟩
      refine all3 1 3 5 (by kernel_rfl) ?_ ?_ ?_
      · refine opOf hf480 rfl (by kernel_rfl) (aCall (fid := 54) (args := [.slice A0 x0.length c0]) (d := 23) hf480 (by kernel_rfl) (by kernel_rfl) callable54 (slices_Clone_int.calls _ _ x0 A0 x0.length c0 rfl (hm481.give [0] [.sl (Kd.int .i64) A0 c0 x0] rfl rfl) r54 hr54) ?_)
        rintro _ w484 a485 ⟨A482, c483, rfl, hk487⟩ hf486
        refine ⟨.inr (Gr.still hk487.cum.none), ?_⟩
        have hm488 := hm481.back hk487
        have hm489 := hm488.seal 0 _ rfl rfl
        exact L292 _ _ ⟨A482, c483, hf486.sel (l := [22, 23, 24, 26, 28]) (by kernel_rfl), hm489.sel [0, 1] _ rfl (by kernel_rfl)⟩
      · refine opOf hf480 rfl (by kernel_rfl) (aMake (kd := kTensor) (x := (⟨([] : (List Int)), ([] : (List Nat))⟩ : Tensor)) (E := 28) (L := x1) (z := [.slice none 0 0, .slice none 0 0]) (sz := 2) (d := 25) hf480 (by kernel_rfl) (by kernel_rfl) rfl (kTensor.zero) g55.1 g55.2 ?_)
        intro A490 c491 w492 a493 ho495 hb497 hg496 hf494
        refine ⟨.inr (Gr.still hg496), ?_⟩
        have hm498 : Mem [] M w0 [.ow kTensor 28 A490 c491 (List.replicate (x1).toNat (⟨([] : (List Int)), ([] : (List Nat))⟩ : Tensor)), .sl (Kd.int .i64) A0 c0 x0] w492 := hm481.own (ho495 _) hg496
        exact L355 _ _ ⟨A490, c491, hf494.sel (l := [22, 24, 25, 26, 28]) (by kernel_rfl), hm498.sel [0, 1] _ rfl (by kernel_rfl)⟩
      · refine opOf hf480 rfl (by kernel_rfl) (aMake (kd := Kd.bool) (x := false) (E := 4) (L := x1) (z := [.bool false]) (sz := 1) (d := 27) hf480 (by kernel_rfl) (by kernel_rfl) rfl (fun _ _ => rfl) g55.1 g55.2 ?_)
        intro A499 c500 w501 a502 ho504 hb506 hg505 hf503
        refine ⟨.inr (Gr.still hg505), ?_⟩
        have hm507 : Mem [] M w0 [.ow Kd.bool 4 A499 c500 (List.replicate (x1).toNat false), .sl (Kd.int .i64) A0 c0 x0] w501 := hm481.own (ho504 _) hg505
        exact L416 _ _ ⟨A499, c500, hf503.sel (l := [22, 24, 26, 27, 28]) (by kernel_rfl), hm507.sel [0, 1] _ rfl (by kernel_rfl)⟩
    refine quiet0 [0, 2, 4, 6] [] [22, 24, 26, 28] #[true, false, true, false, true, false, true, false, false, false, false] [(22, .slice A0 x0.length c0), (24, .int .i64 x1), (26, .int .i64 x1), (28, .int .i64 x1)] [] 7 rfl (by kernel_rfl) (fun _ _ _ _ _ h => nomatch h.1) hf53 (by kernel_rfl) trivial fun a508 hf509 => ?_
    exact L477 _ _ ⟨hf509.sel (l := [22, 24, 26, 28]) (by kernel_rfl), hm93.sel [0] _ rfl (by kernel_rfl)⟩
  rintro a510 w511 ⟨b83, A56, c57, A65, c66, A74, c75, hf512, hm513⟩
  refine thenN ?_
  refine wp_ret ?_
  have hm514 : Mem [] M w0 [.bx b83 [.slice A56 r54.length c57, .slice A65 ((List.replicate (x1).toNat (⟨([] : (List Int)), ([] : (List Nat))⟩ : Tensor)).length) c66, .slice A74 ((List.replicate (x1).toNat false).length) c75, .int .i64 x1] 80, .sl (Kd.int .i64) A56 c57 r54, .ow kTensor 28 A65 c66 (List.replicate (x1).toNat (⟨([] : (List Int)), ([] : (List Nat))⟩ : Tensor)), .ow Kd.bool 4 A74 c75 (List.replicate (x1).toNat false)] w511 := hm513.sel [0, 3, 2, 1] _ rfl (by kernel_rfl)
  obtain rfl := Option.some.inj H0
  refine ret [] [.pointer (some ⟨b83, 0, none⟩), .int .i64 0] [] hf512 (by kernel_rfl) trivial ?_
  exact PtrP_so ⟨_, rfl, b83, A56, c57, A65, c66, A74, c75, rfl, hm514⟩
theorem fold_New.calls_n (M : List (Option Nat)) (w0 : World) (x0 : (List Int)) (A0 : Option Addr) (n0 c0 : Nat) (e0 : n0 = x0.length) (x1 : Int) (hm0 : Mem [] M w0 [.sl (Kd.int .i64) A0 c0 x0] w0) (r : ((Option Slots) × Int)) (hp : r.1 = none) (H0 : fold_New.f x0 x1 = some r) :
    Calls Try.prog 20 [.slice A0 n0 c0, .int .i64 x1].toArray w0 (fun x w' => ∃ v, x = .returned v ∧ v = .tuple #[.pointer none, .int .i64 r.2] ∧ Mem [] M w0 [] w') :=
  (fold_New.calls_x M w0 x0 A0 n0 c0 e0 x1 hm0 r H0).mono (fun _ _ h => by rw [hp] at h; exact h)
theorem fold_New.calls_s (M : List (Option Nat)) (w0 : World) (x0 : (List Int)) (A0 : Option Addr) (n0 c0 : Nat) (e0 : n0 = x0.length) (x1 : Int) (hm0 : Mem [] M w0 [.sl (Kd.int .i64) A0 c0 x0] w0) (r : ((Option Slots) × Int)) (y : Slots) (hp : r.1 = some y) (H0 : fold_New.f x0 x1 = some r) :
    Calls Try.prog 20 [.slice A0 n0 c0, .int .i64 x1].toArray w0 (fun x w' => ∃ v, x = .returned v ∧ ∃ bp Aq_0 cq_0 Aq_1 cq_1 Aq_2 cq_2, v = .tuple #[.pointer (some ⟨bp, 0, none⟩), .int .i64 r.2] ∧ Mem [] M w0 [.bx bp [.slice Aq_0 y.s.length cq_0, .slice Aq_1 y.l.length cq_1, .slice Aq_2 y.filled.length cq_2, .int .i64 y.left] 80, .sl (Kd.int .i64) Aq_0 cq_0 y.s, .ow kTensor 28 Aq_1 cq_1 y.l, .ow Kd.bool 4 Aq_2 cq_2 y.filled] w') :=
  (fold_New.calls_x M w0 x0 A0 n0 c0 e0 x1 hm0 r H0).mono (fun _ _ h => by rw [hp] at h; exact h)
theorem fold_New.calls_d (M : List (Option Nat)) (w0 : World) (x0 : (List Int)) (A0 : Option Addr) (n0 c0 : Nat) (e0 : n0 = x0.length) (x1 : Int) (hm0 : Mem [] M w0 [.sl (Kd.int .i64) A0 c0 x0] w0) (r : ((Option Slots) × Int)) (H0 : fold_New.f x0 x1 = some r) :
    Calls Try.prog 20 [.slice A0 n0 c0, .int .i64 x1].toArray w0 (fun x w' => ∃ v, x = .returned v ∧ ∃ p, v = .tuple #[p, .int .i64 r.2] ∧ Mem [] M w0 [] w') := by
  cases hp : r.1 with
  | none => exact (fold_New.calls_n M w0 x0 A0 n0 c0 e0 x1 hm0 r hp H0).mono (fun _ _ ⟨v, e, hv, hm⟩ => ⟨v, e, _, hv, hm⟩)
  | some y => exact (fold_New.calls_s M w0 x0 A0 n0 c0 e0 x1 hm0 r y hp H0).mono (fun _ _ ⟨v, e, bp, Aq_0, cq_0, Aq_1, cq_1, Aq_2, cq_2, hv, hm⟩ => ⟨v, e, _, hv, hm.sel [] _ rfl (by kernel_rfl)⟩)

/-! ### backstitch/tensor.May -/
noncomputable def tensor_May.f (x0 : Tensor) : Option Bool :=
  (shape_Size.f x0.Shape).bind fun r30 =>
  if r30.2 = 0 then (if (x0.Data.length : Int) = r30.1 then (some true)
  else (some false))
  else (some false)
set_option maxRecDepth 100000 in
set_option maxHeartbeats 4000000 in
theorem tensor_May.calls (M : List (Option Nat)) (w0 : World) (x0 : Tensor) (A0_0 : Option Addr) (n0_0 c0_0 : Nat) (e0_0 : n0_0 = x0.Shape.length) (A0_1 : Option Addr) (n0_1 c0_1 : Nat) (e0_1 : n0_1 = x0.Data.length) (hm0 : Mem [] M w0 [.sl (Kd.int .i64) A0_0 c0_0 x0.Shape, .sl Kd.float A0_1 c0_1 x0.Data] w0) (r : Bool) (H0 : tensor_May.f x0 = some r) :
    Calls Try.prog 38 [.agg #[.slice A0_0 n0_0 c0_0, .slice A0_1 n0_1 c0_1]].toArray w0 (fun x w' => ∃ v, x = .returned v ∧ v = .bool r ∧ Mem [] M w0 [] w') := by
  subst e0_0
  subst e0_1
  unfold tensor_May.f at H0
  refine enter (n := 20) Try.func38 rfl rfl (by kernel_rfl) fun a0 (hf0 : Fr 20 a0 [(0, .agg #[.slice A0_0 x0.Shape.length c0_0, .slice A0_1 x0.Data.length c0_1])]) => ?_
  refine wp_seq ?_
  refine inReg ?_
  refine listOf hf0 rfl (by kernel_rfl) (aNew (cs := [.slice A0_0 x0.Shape.length c0_0, .slice A0_1 x0.Data.length c0_1]) (T := 28) (d := 1) hf0 (by kernel_rfl) (by kernel_rfl) ?_)
  intro b21 w22 a23 hbb21 hx25 hg26 hf24
  have hm27 := hm0.box hbb21 hx25 hg26
  refine go 1 [] [1] [(1, .pointer (some ⟨b21, 0, none⟩))] [] hf24 (by kernel_rfl) trivial fun a28 hf29 => ?_
  refine endL rfl ?_
  refine thenN ?_
  refine wp_seq ?_
  obtain ⟨r30, hr30, H0⟩ := ob_split H0
  refine inReg ?_
  refine go 2 [.slice A0_0 x0.Shape.length c0_0] [1, 7] [(1, .pointer (some ⟨b21, 0, none⟩)), (7, .slice A0_0 x0.Shape.length c0_0)] [.cell ⟨b21, 0, none⟩ (.slice A0_0 x0.Shape.length c0_0)] hf29 (by kernel_rfl) ⟨(hm27.cell 0 rfl rfl), trivial⟩ fun a31 hf32 => ?_
  refine listOf hf32 rfl (by kernel_rfl) (aCall (fid := 53) (args := [.slice A0_0 x0.Shape.length c0_0]) (d := 8) hf32 (by kernel_rfl) (by kernel_rfl) callable53 (shape_Size.calls _ _ x0.Shape A0_0 x0.Shape.length c0_0 rfl (hm27.give [1] [.sl (Kd.int .i64) A0_0 c0_0 x0.Shape] rfl rfl) r30 hr30) ?_)
  rintro _ w33 a34 ⟨rfl, hk36⟩ hf35
  have hm37 := hm27.still hk36.cum.none
  refine go 5 [] [1, 3, 4] [(1, .pointer (some ⟨b21, 0, none⟩)), (3, .int .i64 r30.1), (4, .int .i64 r30.2)] [] hf35 (by kernel_rfl) trivial fun a38 hf39 => ?_
  refine endL rfl ?_
  refine thenN ?_
  refine wp_seq ?_
  rcases if_split H0 with ⟨c40, H0⟩ | ⟨c40, H0⟩
  rotate_left
  · refine reg [.bool false] [2] [(2, .bool false)] [.is (((r30.2 : Int) == 0) = false)] hf39 (by kernel_rfl) ⟨(eqF c40), trivial⟩ fun a52 hf53 => ?_
    have hm54 := hm37.sel [] _ rfl (by kernel_rfl)
    refine thenN ?_
    refine wp_ret ?_
    have hm55 : Mem [] M w0 [] w33 := hm54.sel [] _ rfl (by kernel_rfl)
    obtain rfl := Option.some.inj H0
    refine ret [] [.bool false] [] hf53 (by kernel_rfl) trivial ?_
    exact ⟨_, rfl, rfl, hm55⟩
  rcases if_split H0 with ⟨c41, H0⟩ | ⟨c41, H0⟩
  · refine reg [.bool true, .slice A0_1 x0.Data.length c0_1, .bool true] [2] [(2, .bool true)] [.is (((r30.2 : Int) == 0) = true), .cell ⟨b21, 1, none⟩ (.slice A0_1 x0.Data.length c0_1), .is ((((x0.Data.length : Int) : Int) == r30.1) = true)] hf39 (by kernel_rfl) ⟨(eqT c40), (hm37.cell 0 rfl rfl), (eqT c41), trivial⟩ fun a42 hf43 => ?_
    have hm44 := hm37.sel [] _ rfl (by kernel_rfl)
    refine thenN ?_
    refine wp_ret ?_
    have hm45 : Mem [] M w0 [] w33 := hm44.sel [] _ rfl (by kernel_rfl)
    obtain rfl := Option.some.inj H0
    refine ret [] [.bool true] [] hf43 (by kernel_rfl) trivial ?_
    exact ⟨_, rfl, rfl, hm45⟩
  refine reg [.bool true, .slice A0_1 x0.Data.length c0_1, .bool false] [2] [(2, .bool false)] [.is (((r30.2 : Int) == 0) = true), .cell ⟨b21, 1, none⟩ (.slice A0_1 x0.Data.length c0_1), .is ((((x0.Data.length : Int) : Int) == r30.1) = false)] hf39 (by kernel_rfl) ⟨(eqT c40), (hm37.cell 0 rfl rfl), (eqF c41), trivial⟩ fun a47 hf48 => ?_
  have hm49 := hm37.sel [] _ rfl (by kernel_rfl)
  refine thenN ?_
  refine wp_ret ?_
  have hm50 : Mem [] M w0 [] w33 := hm49.sel [] _ rfl (by kernel_rfl)
  obtain rfl := Option.some.inj H0
  refine ret [] [.bool false] [] hf48 (by kernel_rfl) trivial ?_
  exact ⟨_, rfl, rfl, hm50⟩

/-! ### slices.Equal[[]int,int] -/
noncomputable def slices_Equal_int.l0 (x0 : (List Int)) (x1 : (List Int)) (s28 : Int) : Step Int (Out2 Int Bool) :=
  if s28 < (x0.length : Int) then (if 0 ≤ s28 ∧ s28 < (x0.length : Int) then (if 0 ≤ s28 ∧ s28 < (x1.length : Int) then (if (rd x0 s28) = (rd x1 s28) then (.next (w64 (s28 + 1)))
  else (.done (.ret false)))
  else .bad)
  else .bad)
  else (.done (.go s28))
noncomputable def slices_Equal_int.f (x0 : (List Int)) (x1 : (List Int)) : Option Bool :=
  if (x0.length : Int) = (x1.length : Int) then ((loop (slices_Equal_int.l0 x0 x1) 0).bind fun r29 =>
  r29.on (fun yr29 =>
  some true) (fun y => some y))
  else (some false)
set_option maxRecDepth 100000 in
set_option maxHeartbeats 4000000 in
theorem slices_Equal_int.calls (M : List (Option Nat)) (w0 : World) (x0 : (List Int)) (A0 : Option Addr) (n0 c0 : Nat) (e0 : n0 = x0.length) (x1 : (List Int)) (A1 : Option Addr) (n1 c1 : Nat) (e1 : n1 = x1.length) (hm0 : Mem [] M w0 [.sl (Kd.int .i64) A0 c0 x0, .sl (Kd.int .i64) A1 c1 x1] w0) (r : Bool) (H0 : slices_Equal_int.f x0 x1 = some r) :
    Calls Try.prog 75 [.slice A0 n0 c0, .slice A1 n1 c1].toArray w0 (fun x w' => ∃ v, x = .returned v ∧ v = .bool r ∧ Mem [] M w0 [] w') := by
  subst e0
  subst e1
  unfold slices_Equal_int.f at H0
  refine enter (n := 26) Try.func75 rfl rfl (by kernel_rfl) fun a0 (hf0 : Fr 26 a0 [(0, .slice A0 x0.length c0), (1, .slice A1 x1.length c1)]) => ?_
  refine wp_seq ?_
  refine reg [] [0, 1] [(0, .slice A0 x0.length c0), (1, .slice A1 x1.length c1)] [] hf0 (by kernel_rfl) trivial fun a21 hf22 => ?_
  refine thenN ?_
  refine wp_seq ?_
  refine wp_seq ?_
  rcases if_split H0 with ⟨c23, H0⟩ | ⟨c23, H0⟩
  rotate_left
  · refine reg [.bool true] [0, 1, 10] [(0, .slice A0 x0.length c0), (1, .slice A1 x1.length c1), (10, .bool true)] [.is ((((x0.length : Int) : Int) != (x1.length : Int)) = true)] hf22 (by kernel_rfl) ⟨(neT c23), trivial⟩ fun a76 hf77 => ?_
    refine thenN ?_
    refine condT hf77 (by kernel_rfl) ?_
    refine wp_seq ?_
    refine reg [] [4] [(4, .bool false)] [] hf77 (by kernel_rfl) trivial fun a78 hf79 => ?_
    have hm80 := hm0.sel [] _ rfl (by kernel_rfl)
    refine thenN ?_
    refine wp_ret ?_
    refine thenR ?_
    have hm81 : Mem [] M w0 [] w0 := hm80.sel [] _ rfl (by kernel_rfl)
    obtain rfl := Option.some.inj H0
    refine ret [] [.bool false] [] hf79 (by kernel_rfl) trivial ?_
    exact ⟨_, rfl, rfl, hm81⟩
  refine reg [.bool false] [0, 1, 10] [(0, .slice A0 x0.length c0), (1, .slice A1 x1.length c1), (10, .bool false)] [.is ((((x0.length : Int) : Int) != (x1.length : Int)) = false)] hf22 (by kernel_rfl) ⟨(neF c23), trivial⟩ fun a24 hf25 => ?_
  refine thenN ?_
  refine condF hf25 (by kernel_rfl) ?_
  refine wp_skip ?_
  refine thenN ?_
  refine wp_seq ?_
  refine wp_seq ?_
  refine reg [] [0, 1, 12, 13] [(0, .slice A0 x0.length c0), (1, .slice A1 x1.length c1), (12, .int .i64 (x0.length : Int)), (13, .int .i64 0)] [] hf25 (by kernel_rfl) trivial fun a26 hf27 => ?_
  refine thenN ?_
  obtain ⟨r29, hr29, H0⟩ := ob_split H0
  refine wpBlock (Mid := fun (a : Act) (w : World) => ∃ yr29 : Int, r29 = .go yr29 ∧ Fr 26 a [(0, .slice A0 x0.length c0), (1, .slice A1 x1.length c1), (12, .int .i64 (x0.length : Int)), (13, .int .i64 yr29)] ∧ Mem [] M w0 [.sl (Kd.int .i64) A0 c0 x0, .sl (Kd.int .i64) A1 c1 x1] w) ?_ ?_
  · refine wpLoop (slices_Equal_int.l0 x0 x1) r29 (fun (s28 : Int) (a : Act) (w : World) => Fr 26 a [(0, .slice A0 x0.length c0), (1, .slice A1 x1.length c1), (12, .int .i64 (x0.length : Int)), (13, .int .i64 s28)] ∧ Mem [] M w0 [.sl (Kd.int .i64) A0 c0 x0, .sl (Kd.int .i64) A1 c1 x1] w) 0 hr29 ⟨hf27.sel (l := [0, 1, 12, 13]) (by kernel_rfl), hm0.sel [0, 1] _ rfl (by kernel_rfl)⟩ ?_
    rintro g30 s28 a31 w32 H1 ⟨hf33, hm34⟩
    unfold slices_Equal_int.l0 at H1
    refine wp_seq ?_
    rcases ifS_split H1 with ⟨c35, H1⟩ | ⟨c35, H1⟩
    rotate_left
    · refine reg [.bool false] [0, 1, 12, 13, 14] [(0, .slice A0 x0.length c0), (1, .slice A1 x1.length c1), (12, .int .i64 (x0.length : Int)), (13, .int .i64 s28), (14, .bool false)] [.is (decide (s28 < (x0.length : Int)) = false)] hf33 (by kernel_rfl) ⟨(decide_eq_false c35), trivial⟩ fun a65 hf66 => ?_
      refine thenN ?_
      refine wp_seq ?_
      refine condF hf66 (by kernel_rfl) ?_
      refine wp_exit ?_
      refine thenE ?_
      refine thenE ?_
      obtain rfl := Option.some.inj H1
      exact .inl ⟨rfl, s28, rfl, hf66.sel (l := [0, 1, 12, 13]) (by kernel_rfl), hm34.sel [0, 1] _ rfl (by kernel_rfl)⟩
    refine reg [.bool true] [0, 1, 12, 13, 14] [(0, .slice A0 x0.length c0), (1, .slice A1 x1.length c1), (12, .int .i64 (x0.length : Int)), (13, .int .i64 s28), (14, .bool true)] [.is (decide (s28 < (x0.length : Int)) = true)] hf33 (by kernel_rfl) ⟨(decide_eq_true c35), trivial⟩ fun a36 hf37 => ?_
    refine thenN ?_
    refine wp_seq ?_
    refine condT hf37 (by kernel_rfl) ?_
    refine wp_skip ?_
    refine thenN ?_
    refine wp_seq ?_
    refine wp_block ?_
    refine wp_seq ?_
    refine reg [] [0, 1, 5, 12, 13] [(0, .slice A0 x0.length c0), (1, .slice A1 x1.length c1), (5, .int .i64 s28), (12, .int .i64 (x0.length : Int)), (13, .int .i64 s28)] [] hf37 (by kernel_rfl) trivial fun a38 hf39 => ?_
    refine thenN ?_
    refine wp_seq ?_
    obtain ⟨g40, H1⟩ := ifS_guard H1
    obtain ⟨g41, H1⟩ := ifS_guard H1
    rcases ifS_split H1 with ⟨c42, H1⟩ | ⟨c42, H1⟩
    · have q43 := (hm34.slAt 0 rfl).int s28 g40.1 g40.2
      have q44 := (hm34.slAt 1 rfl).int s28 g41.1 g41.2
      refine regQ [.int .i64 (rd x0 s28), .int .i64 (rd x1 s28), .bool false] [0, 1, 12, 13, 24] [(0, .slice A0 x0.length c0), (1, .slice A1 x1.length c1), (12, .int .i64 (x0.length : Int)), (13, .int .i64 s28), (24, .bool false)] [.is (Option.isSome A0 = true), .is (0 ≤ s28 ∧ s28 < (x0.length : Int)), .cell ((ad A0).add ((s28).toNat * 1)) (.int .i64 (rd x0 s28)), .is (Option.isSome A1 = true), .is (0 ≤ s28 ∧ s28 < (x1.length : Int)), .cell ((ad A1).add ((s28).toNat * 1)) (.int .i64 (rd x1 s28)), .is ((((rd x0 s28) : Int) != (rd x1 s28)) = false)] (by kernel_rfl) (by kernel_rfl) hf39 (by kernel_rfl) ⟨q43.1, g40, q43.2, q44.1, g41, q44.2, (neF c42), trivial⟩ fun a45 w47 hf46 hg48 => ?_
      have hm49 := hm34.still hg48
      refine thenN ?_
      refine condF hf46 (by kernel_rfl) ?_
      refine wp_skip ?_
      refine blkN ?_
      refine thenN ?_
      refine reg [] [0, 1, 12, 13] [(0, .slice A0 x0.length c0), (1, .slice A1 x1.length c1), (12, .int .i64 (x0.length : Int)), (13, .int .i64 (w64 (s28 + 1)))] [] hf46 (by kernel_rfl) trivial fun a50 hf51 => ?_
      exact ⟨(w64 (s28 + 1)), H1, hf51.sel (l := [0, 1, 12, 13]) (by kernel_rfl), hm49.sel [0, 1] _ rfl (by kernel_rfl)⟩
    have q52 := (hm34.slAt 0 rfl).int s28 g40.1 g40.2
    have q53 := (hm34.slAt 1 rfl).int s28 g41.1 g41.2
    refine regQ [.int .i64 (rd x0 s28), .int .i64 (rd x1 s28), .bool true] [0, 1, 12, 13, 24] [(0, .slice A0 x0.length c0), (1, .slice A1 x1.length c1), (12, .int .i64 (x0.length : Int)), (13, .int .i64 s28), (24, .bool true)] [.is (Option.isSome A0 = true), .is (0 ≤ s28 ∧ s28 < (x0.length : Int)), .cell ((ad A0).add ((s28).toNat * 1)) (.int .i64 (rd x0 s28)), .is (Option.isSome A1 = true), .is (0 ≤ s28 ∧ s28 < (x1.length : Int)), .cell ((ad A1).add ((s28).toNat * 1)) (.int .i64 (rd x1 s28)), .is ((((rd x0 s28) : Int) != (rd x1 s28)) = true)] (by kernel_rfl) (by kernel_rfl) hf39 (by kernel_rfl) ⟨q52.1, g40, q52.2, q53.1, g41, q53.2, (neT c42), trivial⟩ fun a54 w56 hf55 hg57 => ?_
    have hm58 := hm34.still hg57
    refine thenN ?_
    refine condT hf55 (by kernel_rfl) ?_
    refine wp_seq ?_
    refine reg [] [4] [(4, .bool false)] [] hf55 (by kernel_rfl) trivial fun a59 hf60 => ?_
    have hm61 := hm58.sel [] _ rfl (by kernel_rfl)
    refine thenN ?_
    refine wp_ret ?_
    refine blkR ?_
    refine thenR ?_
    refine thenR ?_
    refine .inr ⟨rfl, ?_⟩
    refine thenR ?_
    have hm62 : Mem [] M w0 [] w56 := hm61.sel [] _ rfl (by kernel_rfl)
    obtain rfl := Option.some.inj H1
    obtain rfl := Option.some.inj H0
    refine ret [] [.bool false] [] hf60 (by kernel_rfl) trivial ?_
    exact ⟨_, rfl, rfl, hm62⟩
  rintro a67 w68 ⟨yr29, rfl, hf69, hm70⟩
  refine thenN ?_
  refine wp_seq ?_
  refine reg [] [4] [(4, .bool true)] [] hf69 (by kernel_rfl) trivial fun a71 hf72 => ?_
  have hm73 := hm70.sel [] _ rfl (by kernel_rfl)
  refine thenN ?_
  refine wp_ret ?_
  have hm74 : Mem [] M w0 [] w68 := hm73.sel [] _ rfl (by kernel_rfl)
  obtain rfl := Option.some.inj H0
  refine ret [] [.bool true] [] hf72 (by kernel_rfl) trivial ?_
  exact ⟨_, rfl, rfl, hm74⟩

/-! ### backstitch/shape.Same -/
noncomputable def shape_Same.f (x0 : (List Int)) (x1 : (List Int)) : Option Bool :=
  (slices_Equal_int.f x0 x1).bind fun r23 =>
  some r23
set_option maxRecDepth 100000 in
set_option maxHeartbeats 4000000 in
theorem shape_Same.calls (M : List (Option Nat)) (w0 : World) (x0 : (List Int)) (A0 : Option Addr) (n0 c0 : Nat) (e0 : n0 = x0.length) (x1 : (List Int)) (A1 : Option Addr) (n1 c1 : Nat) (e1 : n1 = x1.length) (hm0 : Mem [] M w0 [.sl (Kd.int .i64) A0 c0 x0, .sl (Kd.int .i64) A1 c1 x1] w0) (r : Bool) (H0 : shape_Same.f x0 x1 = some r) :
    Calls Try.prog 48 [.slice A0 n0 c0, .slice A1 n1 c1].toArray w0 (fun x w' => ∃ v, x = .returned v ∧ v = .bool r ∧ Mem [] M w0 [] w') := by
  subst e0
  subst e1
  unfold shape_Same.f at H0
  refine enter (n := 8) Try.func48 rfl rfl (by kernel_rfl) fun a0 (hf0 : Fr 8 a0 [(0, .slice A0 x0.length c0), (1, .slice A1 x1.length c1)]) => ?_
  refine wp_seq ?_
  refine reg [] [0, 1] [(0, .slice A0 x0.length c0), (1, .slice A1 x1.length c1)] [] hf0 (by kernel_rfl) trivial fun a21 hf22 => ?_
  refine thenN ?_
  refine wp_seq ?_
  obtain ⟨r23, hr23, H0⟩ := ob_split H0
  refine inReg ?_
  refine go 2 [] [5, 6] [(5, .slice A0 x0.length c0), (6, .slice A1 x1.length c1)] [] hf22 (by kernel_rfl) trivial fun a24 hf25 => ?_
  refine listOf hf25 rfl (by kernel_rfl) (aCall (fid := 75) (args := [.slice A0 x0.length c0, .slice A1 x1.length c1]) (d := 7) hf25 (by kernel_rfl) (by kernel_rfl) callable75 (slices_Equal_int.calls _ _ x0 A0 x0.length c0 rfl x1 A1 x1.length c1 rfl (hm0.give [0, 1] [.sl (Kd.int .i64) A0 c0 x0, .sl (Kd.int .i64) A1 c1 x1] rfl rfl) r23 hr23) ?_)
  rintro _ w26 a27 ⟨rfl, hk29⟩ hf28
  have hm30 := hm0.still hk29.cum.none
  refine go 1 [] [4] [(4, .bool r23)] [] hf28 (by kernel_rfl) trivial fun a31 hf32 => ?_
  refine endL rfl ?_
  have hm33 := hm30.sel [] _ rfl (by kernel_rfl)
  refine thenN ?_
  refine wp_ret ?_
  have hm34 : Mem [] M w0 [] w26 := hm33.sel [] _ rfl (by kernel_rfl)
  obtain rfl := Option.some.inj H0
  refine ret [] [.bool r23] [] hf32 (by kernel_rfl) trivial ?_
  exact ⟨_, rfl, rfl, hm34⟩
end Go.Proofs.Ytkcgiolledmbnab
