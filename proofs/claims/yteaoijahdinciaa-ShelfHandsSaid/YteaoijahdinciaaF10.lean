/- Printed by gen.py. -/
import Derived.Test.YteaoijahdinciaaF9
namespace Go.Proofs.Yteaoijahdinciaa
open Go Go.RowKit
set_option linter.unusedSimpArgs false
set_option linter.unusedVariables false
set_option linter.unnecessarySimpa false
/-! ### backstitch/backstitchref1.New -/
noncomputable def ref1_New.l0 (r30 : (Int × Int)) (x1 : Nat) (s464 : (Int × (List Nat))) : Step (Int × (List Nat)) (Int × (List Nat)) :=
  if s464.1 < r30.1 then (if 0 ≤ s464.1 ∧ s464.1 < (s464.2.length : Int) then (.next ((w64 (s464.1 + 1)), (put s464.2 s464.1 x1)))
  else .bad)
  else (.done (s464.1, s464.2))
noncomputable def ref1_New.f (x0 : (List Int)) (x1 : Nat) : Option (Tensor × Int) :=
  (ref1_Size.f x0).bind fun r30 =>
  if r30.2 = 0 then (if 0 + x0.length ≤ 549755813888 then (if 0 ≤ r30.1 ∧ r30.1 ≤ 1099511627776 then ((loop (ref1_New.l0 r30 x1) (0, (List.replicate (r30.1).toNat (0 : Nat)))).bind fun r465 =>
  some ((⟨(([] : (List Int)) ++ x0), r465.2⟩ : Tensor), 0))
  else none)
  else none)
  else (some ((⟨([] : (List Int)), ([] : (List Nat))⟩ : Tensor), r30.2))
set_option maxRecDepth 100000 in
set_option maxHeartbeats 4000000 in
theorem ref1_New.calls (M : List (Option Nat)) (w0 : World) (x0 : (List Int)) (A0 : Option Addr) (n0 c0 : Nat) (e0 : n0 = x0.length) (x1 : Nat) (b1 : Nat) (h1 : FR b1 x1) (hm0 : Mem [] M w0 [.sl (Kd.int .i64) A0 c0 x0] w0) (r : (Tensor × Int)) (H0 : ref1_New.f x0 x1 = some r) :
    Calls Try.prog 38 [.slice A0 n0 c0, .float .f64 b1].toArray w0 (fun x w' => ∃ v, x = .returned v ∧ ∃ Ar0_0 cr0_0 Ar0_1 cr0_1, v = .tuple #[.agg #[.slice Ar0_0 r.1.Shape.length cr0_0, .slice Ar0_1 r.1.Data.length cr0_1], .int .i64 r.2] ∧ Mem [] M w0 [.ow (Kd.int .i64) 3 Ar0_0 cr0_0 r.1.Shape, .ow Kd.float 26 Ar0_1 cr0_1 r.1.Data] w') := by
  subst e0
  unfold ref1_New.f at H0
  refine enter (n := 35) Try.func38 rfl rfl (by kernel_rfl) fun a0 (hf0 : Fr 35 a0 [(0, .slice A0 x0.length c0), (1, .float .f64 b1)]) => ?_
  refine wp_seq ?_
  refine inReg ?_
  refine lo hf0 rfl (nw (cs := [.slice none 0 0, .slice none 0 0]) (T := 29) (d := 4) hf0 ?_)
  intro b21 w22 a23 hbb21 hx25 hg26 hf24
  have hm27 := hm0.box hbb21 hx25 hg26
  refine gg 1 [] [(0, .slice A0 x0.length c0), (1, vf b1), (4, vp b21)] hf24 ot fun a28 hf29 => ?_
  refine endL rfl ?_
  refine thenN ?_
  refine wp_seq ?_
  obtain ⟨r30, hr30, H0⟩ := ob_split H0
  refine inReg ?_
  refine gg 1 [] [(0, .slice A0 x0.length c0), (1, vf b1), (4, vp b21), (11, .slice A0 x0.length c0)] hf29 ot fun a31 hf32 => ?_
  refine lo hf32 rfl (cl 12 hf32 callable40 (ref1_Size.calls _ _ _ _ _ _ rfl (hm27.give [1] [.sl (Kd.int .i64) A0 c0 x0] rfl rfl) r30 hr30) ?_)
  rintro _ w33 a34 ⟨rfl, hk36⟩ hf35
  have hm37 := hm27.still hk36.cum.none
  refine gg 5 [] [(0, .slice A0 x0.length c0), (1, vf b1), (4, vp b21), (6, vi r30.1), (7, vi r30.2)] hf35 ot fun a38 hf39 => ?_
  refine endL rfl ?_
  refine thenN ?_
  refine wp_seq ?_
  refine wp_seq ?_
  rcases if_split H0 with ⟨c40, H0⟩ | ⟨c40, H0⟩
  rotate_left
  · refine rg [.bool true] [(0, .slice A0 x0.length c0), (1, vf b1), (4, vp b21), (6, vi r30.1), (7, vi r30.2), (16, .bool true)] hf39 (oi (neT c40) ot) fun a504 hf505 => ?_
    refine thenN ?_
    refine cT hf505 ?_
    refine wp_seq ?_
    refine inReg ?_
    refine gg 2 [] [(4, vp b21), (17, .agg #[.slice none 0 0, .slice none 0 0]), (18, vi r30.2)] hf505 ot fun a506 hf507 => ?_
    refine lo hf507 rfl (sb (j := 0) (us := [.slice none 0 0, .slice none 0 0]) (cs' := [.slice none 0 0, .slice none 0 0]) hf507 (hm37.bxAt 0 rfl) ?_)
    intro w508 hx509 hg510
    have hm511 := hm37.setBox 0 _ rfl rfl hx509 hg510
    refine gg 1 [] [(4, vp b21), (5, vi r30.2)] hf507 ot fun a512 hf513 => ?_
    refine endL rfl ?_
    have hm514 := hm511.se [0] _ rfl
    refine thenN ?_
    refine wp_ret ?_
    refine thenR ?_
    have hm515 := hm514.nilOw (Kd.int .i64) 3
    have hm516 := hm515.nilOw Kd.float 26
    have hm517 : Mem [] M w0 [.ow (Kd.int .i64) 3 none 0 ([] : (List Int)), .ow Kd.float 26 none 0 ([] : (List Nat))] w508 := hm516.se [1, 0] _ rfl
    obtain rfl := Option.some.inj H0
    refine rt [.agg #[.slice none 0 0, .slice none 0 0]] [.agg #[.slice none 0 0, .slice none 0 0], .int .i64 r30.2] hf513 (oc (hm514.cell (j := 0) 0 rfl rfl) (oc (hm514.cell (j := 1) 0 rfl rfl) ot)) ?_
    exact ⟨_, rfl, none, 0, none, 0, rfl, hm517⟩
  refine rg [.bool false] [(0, .slice A0 x0.length c0), (1, vf b1), (4, vp b21), (6, vi r30.1), (7, vi r30.2), (16, .bool false)] hf39 (oi (neF c40) ot) fun a41 hf42 => ?_
  refine thenN ?_
  refine cF hf42 ?_
  refine wp_skip ?_
  refine thenN ?_
  refine wp_seq ?_
  obtain ⟨g43, H0⟩ := if_guard H0
  obtain ⟨g44, H0⟩ := if_guard H0
  refine midReg (fun (a : Act) (w : World) => ∃ (b67 : Nat) (A46 : Option Addr) (c47 : Nat) (A57 : Option Addr) (c58 : Nat), Fr 35 a [(1, .float .f64 b1), (4, .pointer (some ⟨b21, 0, none⟩)), (6, .int .i64 r30.1), (8, .pointer (some ⟨b67, 0, none⟩))] ∧ Mem [] M w0 [.bx b67 [.slice A46 ((([] : (List Int)) ++ x0).length) c47, .slice A57 (List.replicate (r30.1).toNat (0 : Nat)).length c58] 29, .ow Kd.float 26 A57 c58 (List.replicate (r30.1).toNat (0 : Nat)), .ow (Kd.int .i64) 3 A46 c47 (([] : (List Int)) ++ x0), .bx b21 [.slice none 0 0, .slice none 0 0] 29] w) ?_ ?_
  · refine anyG (K := []) [6] (by kernel_rfl) fun w79 hg80 => ?_
    have hm81 := hm37.still hg80
    refine memoStep (R := fun (a : Act) (w : World) => ∃ (A85 : Option Addr) (c86 : Nat), Fr 35 a [(1, .float .f64 b1), (4, .pointer (some ⟨b21, 0, none⟩)), (6, .int .i64 r30.1), (19, .slice A0 x0.length c0), (20, .slice A85 ((([] : (List Int)) ++ x0).length) c86), (21, .int .i64 r30.1)] ∧ Mem [] M w0 [.ow (Kd.int .i64) 3 A85 c86 (([] : (List Int)) ++ x0), .bx b21 [.slice none 0 0, .slice none 0 0] 29, .sl (Kd.int .i64) A0 c0 x0] w) (fb 7 7) 4 ?_ fun L260 => ?_
    · rintro a261 w262 ⟨A85, c86, hf263, hm264⟩
      refine all2 3 5 (by kernel_rfl) ?_ ?_
      · refine oo hf263 rfl (aMake (kd := Kd.float) (x := 0) (E := 26) (L := r30.1) (z := [.float .f64 0]) (sz := 1) (d := 22) hf263 (by kernel_rfl) (by kernel_rfl) rfl (fun _ _ => ⟨0, rfl, FR.lit (by kernel_rfl) (by kernel_rfl)⟩) g44.1 g44.2 ?_)
        intro A265 c266 w267 a268 ho270 hb272 hg271 hf269
        refine ⟨.inr (Gr.still hg271), ?_⟩
        have hm273 : Mem [] M w0 [.ow Kd.float 26 A265 c266 (List.replicate (r30.1).toNat (0 : Nat)), .ow (Kd.int .i64) 3 A85 c86 (([] : (List Int)) ++ x0), .bx b21 [.slice none 0 0, .slice none 0 0] 29, .sl (Kd.int .i64) A0 c0 x0] w267 := hm264.own (ho270 _) hg271
        refine qt [4] [] (fb 7 31) [(1, vf b1), (4, vp b21), (6, vi r30.1), (23, .agg #[.slice A85 ((([] : (List Int)) ++ x0).length) c86, .slice A265 (List.replicate (r30.1).toNat (0 : Nat)).length c266])] 2 hf269 ot fun a274 hf275 => ?_
        refine a1 5 ?_
        refine oo hf275 rfl (nw (cs := [.slice none 0 0, .slice none 0 0]) (T := 29) (d := 8) hf275 ?_)
        intro b276 w277 a278 hbb276 hx280 hg281 hf279
        refine ⟨.inr (Gr.still hg281), ?_⟩
        have hm282 := hm273.box hbb276 hx280 hg281
        refine a1 6 ?_
        refine oo hf279 rfl (sb (j := 0) (us := [.slice A85 ((([] : (List Int)) ++ x0).length) c86, .slice A265 (List.replicate (r30.1).toNat (0 : Nat)).length c266]) (cs' := [.slice A85 ((([] : (List Int)) ++ x0).length) c86, .slice A265 (List.replicate (r30.1).toNat (0 : Nat)).length c266]) hf279 (hm282.bxAt 0 rfl) ?_)
        intro w283 hx284 hg285
        refine ⟨.inl (by decide), ?_⟩
        have hm286 := hm282.setBox 0 _ rfl rfl hx284 hg285
        refine aD ⟨rfl, b276, A85, c86, A265, c266, hf279.se [1, 4, 6, 8], hm286.se [0, 1, 2, 3] _ rfl⟩
      · refine oo hf263 rfl (nw (cs := [.slice none 0 0, .slice none 0 0]) (T := 29) (d := 8) hf263 ?_)
        intro b287 w288 a289 hbb287 hx291 hg292 hf290
        refine ⟨.inr (Gr.still hg292), ?_⟩
        have hm293 := hm264.box hbb287 hx291 hg292
        refine a1 3 ?_
        refine oo hf290 rfl (aMake (kd := Kd.float) (x := 0) (E := 26) (L := r30.1) (z := [.float .f64 0]) (sz := 1) (d := 22) hf290 (by kernel_rfl) (by kernel_rfl) rfl (fun _ _ => ⟨0, rfl, FR.lit (by kernel_rfl) (by kernel_rfl)⟩) g44.1 g44.2 ?_)
        intro A294 c295 w296 a297 ho299 hb301 hg300 hf298
        refine ⟨.inr (Gr.still hg300), ?_⟩
        have hm302 : Mem [] M w0 [.ow Kd.float 26 A294 c295 (List.replicate (r30.1).toNat (0 : Nat)), .bx b287 [.slice none 0 0, .slice none 0 0] 29, .ow (Kd.int .i64) 3 A85 c86 (([] : (List Int)) ++ x0), .bx b21 [.slice none 0 0, .slice none 0 0] 29, .sl (Kd.int .i64) A0 c0 x0] w296 := hm293.own (ho299 _) hg300
        refine qt [4] [] (fb 7 63) [(1, vf b1), (4, vp b21), (6, vi r30.1), (8, vp b287), (23, .agg #[.slice A85 ((([] : (List Int)) ++ x0).length) c86, .slice A294 (List.replicate (r30.1).toNat (0 : Nat)).length c295])] 1 hf298 ot fun a303 hf304 => ?_
        refine a1 6 ?_
        refine oo hf304 rfl (sb (j := 0) (us := [.slice A85 ((([] : (List Int)) ++ x0).length) c86, .slice A294 (List.replicate (r30.1).toNat (0 : Nat)).length c295]) (cs' := [.slice A85 ((([] : (List Int)) ++ x0).length) c86, .slice A294 (List.replicate (r30.1).toNat (0 : Nat)).length c295]) hf304 (hm302.bxAt 1 rfl) ?_)
        intro w305 hx306 hg307
        refine ⟨.inl (by decide), ?_⟩
        have hm308 := hm302.setBox 1 _ rfl rfl hx306 hg307
        refine aD ⟨rfl, b287, A85, c86, A294, c295, hf304.se [1, 4, 6, 8], hm308.se [1, 0, 2, 3] _ rfl⟩
    refine memoStep (R := fun (a : Act) (w : World) => ∃ (A140 : Option Addr) (c141 : Nat), Fr 35 a [(1, .float .f64 b1), (4, .pointer (some ⟨b21, 0, none⟩)), (6, .int .i64 r30.1), (19, .slice A0 x0.length c0), (21, .int .i64 r30.1), (22, .slice A140 (List.replicate (r30.1).toNat (0 : Nat)).length c141)] ∧ Mem [] M w0 [.ow Kd.float 26 A140 c141 (List.replicate (r30.1).toNat (0 : Nat)), .bx b21 [.slice none 0 0, .slice none 0 0] 29, .sl (Kd.int .i64) A0 c0 x0] w) (fb 7 13) 4 ?_ fun L309 => ?_
    · rintro a310 w311 ⟨A140, c141, hf312, hm313⟩
      refine all2 1 5 (by kernel_rfl) ?_ ?_
      · have hm314 := hm313.nilOw (Kd.int .i64) 3
        have e323 : 0 = ([] : (List Int)).length := rfl
        have e324 : x0.length = x0.length := rfl
        refine oo hf312 rfl (ap (sz := 1) (d := 20) hf312 e323 e324 (hm314.at 0 rfl) (hm314.at2 0 3 rfl rfl).2 (hm314.cpAt 3 rfl) (by have := g43; omega) ?_)
        intro A315 c316 w317 a318 ho320 hg321 hr322 hf319
        refine ⟨.inr (Gr.still hg321), ?_⟩
        have hm325 := hm314.setOwn 0 _ rfl rfl ho320 hg321 hr322
        refine qt [4] [] (fb 7 31) [(1, vf b1), (4, vp b21), (6, vi r30.1), (23, .agg #[.slice A315 ((([] : (List Int)) ++ x0).length) c316, .slice A140 (List.replicate (r30.1).toNat (0 : Nat)).length c141])] 2 hf319 ot fun a326 hf327 => ?_
        refine a1 5 ?_
        refine oo hf327 rfl (nw (cs := [.slice none 0 0, .slice none 0 0]) (T := 29) (d := 8) hf327 ?_)
        intro b328 w329 a330 hbb328 hx332 hg333 hf331
        refine ⟨.inr (Gr.still hg333), ?_⟩
        have hm334 := hm325.box hbb328 hx332 hg333
        refine a1 6 ?_
        refine oo hf331 rfl (sb (j := 0) (us := [.slice A315 ((([] : (List Int)) ++ x0).length) c316, .slice A140 (List.replicate (r30.1).toNat (0 : Nat)).length c141]) (cs' := [.slice A315 ((([] : (List Int)) ++ x0).length) c316, .slice A140 (List.replicate (r30.1).toNat (0 : Nat)).length c141]) hf331 (hm334.bxAt 0 rfl) ?_)
        intro w335 hx336 hg337
        refine ⟨.inl (by decide), ?_⟩
        have hm338 := hm334.setBox 0 _ rfl rfl hx336 hg337
        refine aD ⟨rfl, b328, A315, c316, A140, c141, hf331.se [1, 4, 6, 8], hm338.se [0, 2, 1, 3] _ rfl⟩
      · refine oo hf312 rfl (nw (cs := [.slice none 0 0, .slice none 0 0]) (T := 29) (d := 8) hf312 ?_)
        intro b339 w340 a341 hbb339 hx343 hg344 hf342
        refine ⟨.inr (Gr.still hg344), ?_⟩
        have hm345 := hm313.box hbb339 hx343 hg344
        refine a1 1 ?_
        have hm346 := hm345.nilOw (Kd.int .i64) 3
        have e355 : 0 = ([] : (List Int)).length := rfl
        have e356 : x0.length = x0.length := rfl
        refine oo hf342 rfl (ap (sz := 1) (d := 20) hf342 e355 e356 (hm346.at 0 rfl) (hm346.at2 0 4 rfl rfl).2 (hm346.cpAt 4 rfl) (by have := g43; omega) ?_)
        intro A347 c348 w349 a350 ho352 hg353 hr354 hf351
        refine ⟨.inr (Gr.still hg353), ?_⟩
        have hm357 := hm346.setOwn 0 _ rfl rfl ho352 hg353 hr354
        refine qt [4] [] (fb 7 63) [(1, vf b1), (4, vp b21), (6, vi r30.1), (8, vp b339), (23, .agg #[.slice A347 ((([] : (List Int)) ++ x0).length) c348, .slice A140 (List.replicate (r30.1).toNat (0 : Nat)).length c141])] 1 hf351 ot fun a358 hf359 => ?_
        refine a1 6 ?_
        refine oo hf359 rfl (sb (j := 0) (us := [.slice A347 ((([] : (List Int)) ++ x0).length) c348, .slice A140 (List.replicate (r30.1).toNat (0 : Nat)).length c141]) (cs' := [.slice A347 ((([] : (List Int)) ++ x0).length) c348, .slice A140 (List.replicate (r30.1).toNat (0 : Nat)).length c141]) hf359 (hm357.bxAt 1 rfl) ?_)
        intro w360 hx361 hg362
        refine ⟨.inl (by decide), ?_⟩
        have hm363 := hm357.setBox 1 _ rfl rfl hx361 hg362
        refine aD ⟨rfl, b339, A347, c348, A140, c141, hf359.se [1, 4, 6, 8], hm363.se [1, 2, 0, 3] _ rfl⟩
    refine memoStep (R := fun (a : Act) (w : World) => ∃ (b199 : Nat), Fr 35 a [(1, .float .f64 b1), (4, .pointer (some ⟨b21, 0, none⟩)), (6, .int .i64 r30.1), (8, .pointer (some ⟨b199, 0, none⟩)), (19, .slice A0 x0.length c0), (21, .int .i64 r30.1)] ∧ Mem [] M w0 [.bx b199 [.slice none 0 0, .slice none 0 0] 29, .bx b21 [.slice none 0 0, .slice none 0 0] 29, .sl (Kd.int .i64) A0 c0 x0] w) (fb 7 37) 4 ?_ fun L364 => ?_
    · rintro a365 w366 ⟨b199, hf367, hm368⟩
      refine all2 1 3 (by kernel_rfl) ?_ ?_
      · have hm369 := hm368.nilOw (Kd.int .i64) 3
        have e378 : 0 = ([] : (List Int)).length := rfl
        have e379 : x0.length = x0.length := rfl
        refine oo hf367 rfl (ap (sz := 1) (d := 20) hf367 e378 e379 (hm369.at 0 rfl) (hm369.at2 0 3 rfl rfl).2 (hm369.cpAt 3 rfl) (by have := g43; omega) ?_)
        intro A370 c371 w372 a373 ho375 hg376 hr377 hf374
        refine ⟨.inr (Gr.still hg376), ?_⟩
        have hm380 := hm369.setOwn 0 _ rfl rfl ho375 hg376 hr377
        refine a1 3 ?_
        refine oo hf374 rfl (aMake (kd := Kd.float) (x := 0) (E := 26) (L := r30.1) (z := [.float .f64 0]) (sz := 1) (d := 22) hf374 (by kernel_rfl) (by kernel_rfl) rfl (fun _ _ => ⟨0, rfl, FR.lit (by kernel_rfl) (by kernel_rfl)⟩) g44.1 g44.2 ?_)
        intro A381 c382 w383 a384 ho386 hb388 hg387 hf385
        refine ⟨.inr (Gr.still hg387), ?_⟩
        have hm389 : Mem [] M w0 [.ow Kd.float 26 A381 c382 (List.replicate (r30.1).toNat (0 : Nat)), .ow (Kd.int .i64) 3 A370 c371 (([] : (List Int)) ++ x0), .bx b199 [.slice none 0 0, .slice none 0 0] 29, .bx b21 [.slice none 0 0, .slice none 0 0] 29, .sl (Kd.int .i64) A0 c0 x0] w383 := hm380.own (ho386 _) hg387
        refine qt [4] [] (fb 7 63) [(1, vf b1), (4, vp b21), (6, vi r30.1), (8, vp b199), (23, .agg #[.slice A370 ((([] : (List Int)) ++ x0).length) c371, .slice A381 (List.replicate (r30.1).toNat (0 : Nat)).length c382])] 1 hf385 ot fun a390 hf391 => ?_
        refine a1 6 ?_
        refine oo hf391 rfl (sb (j := 0) (us := [.slice A370 ((([] : (List Int)) ++ x0).length) c371, .slice A381 (List.replicate (r30.1).toNat (0 : Nat)).length c382]) (cs' := [.slice A370 ((([] : (List Int)) ++ x0).length) c371, .slice A381 (List.replicate (r30.1).toNat (0 : Nat)).length c382]) hf391 (hm389.bxAt 2 rfl) ?_)
        intro w392 hx393 hg394
        refine ⟨.inl (by decide), ?_⟩
        have hm395 := hm389.setBox 2 _ rfl rfl hx393 hg394
        refine aD ⟨rfl, b199, A370, c371, A381, c382, hf391.se [1, 4, 6, 8], hm395.se [2, 0, 1, 3] _ rfl⟩
      · refine oo hf367 rfl (aMake (kd := Kd.float) (x := 0) (E := 26) (L := r30.1) (z := [.float .f64 0]) (sz := 1) (d := 22) hf367 (by kernel_rfl) (by kernel_rfl) rfl (fun _ _ => ⟨0, rfl, FR.lit (by kernel_rfl) (by kernel_rfl)⟩) g44.1 g44.2 ?_)
        intro A396 c397 w398 a399 ho401 hb403 hg402 hf400
        refine ⟨.inr (Gr.still hg402), ?_⟩
        have hm404 : Mem [] M w0 [.ow Kd.float 26 A396 c397 (List.replicate (r30.1).toNat (0 : Nat)), .bx b199 [.slice none 0 0, .slice none 0 0] 29, .bx b21 [.slice none 0 0, .slice none 0 0] 29, .sl (Kd.int .i64) A0 c0 x0] w398 := hm368.own (ho401 _) hg402
        refine a1 1 ?_
        have hm405 := hm404.nilOw (Kd.int .i64) 3
        have e414 : 0 = ([] : (List Int)).length := rfl
        have e415 : x0.length = x0.length := rfl
        refine oo hf400 rfl (ap (sz := 1) (d := 20) hf400 e414 e415 (hm405.at 0 rfl) (hm405.at2 0 4 rfl rfl).2 (hm405.cpAt 4 rfl) (by have := g43; omega) ?_)
        intro A406 c407 w408 a409 ho411 hg412 hr413 hf410
        refine ⟨.inr (Gr.still hg412), ?_⟩
        have hm416 := hm405.setOwn 0 _ rfl rfl ho411 hg412 hr413
        refine qt [4] [] (fb 7 63) [(1, vf b1), (4, vp b21), (6, vi r30.1), (8, vp b199), (23, .agg #[.slice A406 ((([] : (List Int)) ++ x0).length) c407, .slice A396 (List.replicate (r30.1).toNat (0 : Nat)).length c397])] 1 hf410 ot fun a417 hf418 => ?_
        refine a1 6 ?_
        refine oo hf418 rfl (sb (j := 0) (us := [.slice A406 ((([] : (List Int)) ++ x0).length) c407, .slice A396 (List.replicate (r30.1).toNat (0 : Nat)).length c397]) (cs' := [.slice A406 ((([] : (List Int)) ++ x0).length) c407, .slice A396 (List.replicate (r30.1).toNat (0 : Nat)).length c397]) hf418 (hm416.bxAt 2 rfl) ?_)
        intro w419 hx420 hg421
        refine ⟨.inl (by decide), ?_⟩
        have hm422 := hm416.setBox 2 _ rfl rfl hx420 hg421
        refine aD ⟨rfl, b199, A406, c407, A396, c397, hf418.se [1, 4, 6, 8], hm422.se [2, 1, 0, 3] _ rfl⟩
    refine memoStep (R := fun (a : Act) (w : World) => Fr 35 a [(1, .float .f64 b1), (4, .pointer (some ⟨b21, 0, none⟩)), (6, .int .i64 r30.1), (19, .slice A0 x0.length c0), (21, .int .i64 r30.1)] ∧ Mem [] M w0 [.bx b21 [.slice none 0 0, .slice none 0 0] 29, .sl (Kd.int .i64) A0 c0 x0] w) (fb 7 5) 5 ?_ fun L423 => ?_
    · rintro a424 w425 ⟨hf426, hm427⟩
      refine all3 1 3 5 (by kernel_rfl) ?_ ?_ ?_
      · have hm428 := hm427.nilOw (Kd.int .i64) 3
        have e437 : 0 = ([] : (List Int)).length := rfl
        have e438 : x0.length = x0.length := rfl
        refine oo hf426 rfl (ap (sz := 1) (d := 20) hf426 e437 e438 (hm428.at 0 rfl) (hm428.at2 0 2 rfl rfl).2 (hm428.cpAt 2 rfl) (by have := g43; omega) ?_)
        intro A429 c430 w431 a432 ho434 hg435 hr436 hf433
        refine ⟨.inr (Gr.still hg435), ?_⟩
        have hm439 := hm428.setOwn 0 _ rfl rfl ho434 hg435 hr436
        exact ms L260 ⟨A429, c430, hf433.se [1, 4, 6, 19, 20, 21], hm439.se [0, 1, 2] _ rfl⟩
      · refine oo hf426 rfl (aMake (kd := Kd.float) (x := 0) (E := 26) (L := r30.1) (z := [.float .f64 0]) (sz := 1) (d := 22) hf426 (by kernel_rfl) (by kernel_rfl) rfl (fun _ _ => ⟨0, rfl, FR.lit (by kernel_rfl) (by kernel_rfl)⟩) g44.1 g44.2 ?_)
        intro A440 c441 w442 a443 ho445 hb447 hg446 hf444
        refine ⟨.inr (Gr.still hg446), ?_⟩
        have hm448 : Mem [] M w0 [.ow Kd.float 26 A440 c441 (List.replicate (r30.1).toNat (0 : Nat)), .bx b21 [.slice none 0 0, .slice none 0 0] 29, .sl (Kd.int .i64) A0 c0 x0] w442 := hm427.own (ho445 _) hg446
        exact ms L309 ⟨A440, c441, hf444.se [1, 4, 6, 19, 21, 22], hm448.se [0, 1, 2] _ rfl⟩
      · refine oo hf426 rfl (nw (cs := [.slice none 0 0, .slice none 0 0]) (T := 29) (d := 8) hf426 ?_)
        intro b449 w450 a451 hbb449 hx453 hg454 hf452
        refine ⟨.inr (Gr.still hg454), ?_⟩
        have hm455 := hm427.box hbb449 hx453 hg454
        exact ms L364 ⟨b449, hf452.se [1, 4, 6, 8, 19, 21], hm455.se [0, 1, 2] _ rfl⟩
    refine qt [0, 2] [] (fb 7 5) [(1, vf b1), (4, vp b21), (6, vi r30.1), (19, .slice A0 x0.length c0), (21, vi r30.1)] 5 hf42 ot fun a456 hf457 => ?_
    exact ms L423 ⟨hf457.se [1, 4, 6, 19, 21], hm81.se [0, 1] _ rfl⟩
  rintro a458 w459 ⟨b67, A46, c47, A57, c58, hf460, hm461⟩
  refine thenN ?_
  refine wp_seq ?_
  refine wp_seq ?_
  refine rg [] [(1, vf b1), (4, vp b21), (6, vi r30.1), (8, vp b67), (9, vi 0)] hf460 ot fun a462 hf463 => ?_
  refine thenN ?_
  obtain ⟨r465, hr465, H0⟩ := ob_split H0
  refine wpBlock (Mid := fun (a : Act) (w : World) => Fr 35 a [(1, .float .f64 b1), (4, .pointer (some ⟨b21, 0, none⟩)), (6, .int .i64 r30.1), (8, .pointer (some ⟨b67, 0, none⟩)), (9, .int .i64 r465.1)] ∧ Mem [] M w0 [.bx b67 [.slice A46 ((([] : (List Int)) ++ x0).length) c47, .slice A57 r465.2.length c58] 29, .ow Kd.float 26 A57 c58 r465.2, .ow (Kd.int .i64) 3 A46 c47 (([] : (List Int)) ++ x0), .bx b21 [.slice none 0 0, .slice none 0 0] 29] w) ?_ ?_
  · refine wpLoop (ref1_New.l0 r30 x1) r465 (fun (s464 : (Int × (List Nat))) (a : Act) (w : World) => Fr 35 a [(1, .float .f64 b1), (4, .pointer (some ⟨b21, 0, none⟩)), (6, .int .i64 r30.1), (8, .pointer (some ⟨b67, 0, none⟩)), (9, .int .i64 s464.1)] ∧ Mem [] M w0 [.bx b67 [.slice A46 ((([] : (List Int)) ++ x0).length) c47, .slice A57 s464.2.length c58] 29, .ow Kd.float 26 A57 c58 s464.2, .ow (Kd.int .i64) 3 A46 c47 (([] : (List Int)) ++ x0), .bx b21 [.slice none 0 0, .slice none 0 0] 29] w) (0, (List.replicate (r30.1).toNat (0 : Nat))) hr465 ⟨hf463.se [1, 4, 6, 8, 9], hm461.se [0, 1, 2, 3] _ rfl⟩ ?_
    rintro g466 s464 a467 w468 H1 ⟨hf469, hm470⟩
    unfold ref1_New.l0 at H1
    refine wp_seq ?_
    refine wp_seq ?_
    rcases ifS_split H1 with ⟨c471, H1⟩ | ⟨c471, H1⟩
    rotate_left
    · refine rg (ob := [.is (decide (s464.1 < r30.1) = false)]) [.bool false] [(1, vf b1), (4, vp b21), (6, vi r30.1), (8, vp b67), (9, vi s464.1), (26, .bool false)] hf469 ⟨(decide_eq_false c471), trivial⟩ fun a487 hf488 => ?_
      refine thenN ?_
      refine cF hf488 ?_
      refine wp_exit ?_
      refine thenE ?_
      refine thenE ?_
      obtain rfl := Option.some.inj H1
      exact .inl ⟨rfl, hf488.se [1, 4, 6, 8, 9], hm470.se [0, 1, 2, 3] _ rfl⟩
    refine rg (ob := [.is (decide (s464.1 < r30.1) = true)]) [.bool true] [(1, vf b1), (4, vp b21), (6, vi r30.1), (8, vp b67), (9, vi s464.1), (26, .bool true)] hf469 ⟨(decide_eq_true c471), trivial⟩ fun a472 hf473 => ?_
    refine thenN ?_
    refine cT hf473 ?_
    refine wp_skip ?_
    refine thenN ?_
    refine wp_seq ?_
    refine wp_block ?_
    obtain ⟨g474, H1⟩ := ifS_guard H1
    have q475 := (hm470.owAt 1 rfl).float s464.1 g474.1 g474.2
    obtain ⟨b476, hb476, kb476⟩ := q475.2
    refine inReg ?_
    refine gg 5 [.slice A57 s464.2.length c58] [(1, vf b1), (4, vp b21), (6, vi r30.1), (8, vp b67), (9, vi s464.1), (32, vf b1), (33, .pointer (some ((ad A57).add ((s464.1).toNat * 1))))] hf473 (oc (hm470.cell (j := 1) 0 rfl rfl) (oi q475.1 (oi g474 ot))) fun a477 hf478 => ?_
    refine lo hf478 rfl (so (i := s464.1) (x := x1) (us := [.float .f64 b1]) (sz := 1) hf478 (hm470.at 1 rfl) ⟨_, rfl, h1⟩ g474.1 g474.2 ?_)
    intro w479 hx480 hg481
    have hm482 := hm470.setOwn 1 _ rfl rfl hx480 hg481 (.inl rfl)
    refine endL rfl ?_
    refine blkN ?_
    refine thenN ?_
    refine rg [] [(1, vf b1), (4, vp b21), (6, vi r30.1), (8, vp b67), (9, vi (w64 (s464.1 + 1)))] hf478 ot fun a483 hf484 => ?_
    have hf485 : Fr 35 a483 [(1, .float .f64 b1), (4, .pointer (some ⟨b21, 0, none⟩)), (6, .int .i64 r30.1), (8, .pointer (some ⟨b67, 0, none⟩)), (9, .int .i64 (w64 (s464.1 + 1)))] := hf484.se [1, 4, 6, 8, 9]
    have hm486 : Mem [] M w0 [.bx b67 [.slice A46 ((([] : (List Int)) ++ x0).length) c47, .slice A57 s464.2.length c58] 29, .ow Kd.float 26 A57 c58 (put s464.2 s464.1 x1), .ow (Kd.int .i64) 3 A46 c47 (([] : (List Int)) ++ x0), .bx b21 [.slice none 0 0, .slice none 0 0] 29] w479 := hm482.se [0, 1, 2, 3] _ rfl
    exact ⟨((w64 (s464.1 + 1)), (put s464.2 s464.1 x1)), H1, (by simpa only [put_length, List.length_nil] using hf485), (by simpa only [put_length, List.length_nil] using hm486)⟩
  rintro a489 w490 ⟨hf491, hm492⟩
  refine thenN ?_
  refine wp_seq ?_
  refine inReg ?_
  refine gg 1 [.agg #[.slice A46 ((([] : (List Int)) ++ x0).length) c47, .slice A57 r465.2.length c58]] [(4, vp b21), (34, .agg #[.slice A46 ((([] : (List Int)) ++ x0).length) c47, .slice A57 r465.2.length c58])] hf491 (oc (hm492.cell (j := 0) 0 rfl rfl) (oc (hm492.cell (j := 1) 0 rfl rfl) ot)) fun a493 hf494 => ?_
  refine lo hf494 rfl (sb (j := 0) (us := [.slice A46 ((([] : (List Int)) ++ x0).length) c47, .slice A57 r465.2.length c58]) (cs' := [.slice A46 ((([] : (List Int)) ++ x0).length) c47, .slice A57 r465.2.length c58]) hf494 (hm492.bxAt 3 rfl) ?_)
  intro w495 hx496 hg497
  have hm498 := hm492.setBox 3 _ rfl rfl hx496 hg497
  refine gg 1 [] [(4, vp b21), (5, vi 0)] hf494 ot fun a499 hf500 => ?_
  refine endL rfl ?_
  have hm501 := hm498.se [1, 2, 3] _ rfl
  refine thenN ?_
  refine wp_ret ?_
  have hm502 : Mem [] M w0 [.ow (Kd.int .i64) 3 A46 c47 (([] : (List Int)) ++ x0), .ow Kd.float 26 A57 c58 r465.2] w495 := hm501.se [1, 0] _ rfl
  obtain rfl := Option.some.inj H0
  refine rt [.agg #[.slice A46 ((([] : (List Int)) ++ x0).length) c47, .slice A57 r465.2.length c58]] [.agg #[.slice A46 ((([] : (List Int)) ++ x0).length) c47, .slice A57 r465.2.length c58], .int .i64 0] hf500 (oc (hm501.cell (j := 0) 2 rfl rfl) (oc (hm501.cell (j := 1) 2 rfl rfl) ot)) ?_
  exact ⟨_, rfl, A46, c47, A57, c58, rfl, hm502⟩
end Go.Proofs.Yteaoijahdinciaa
