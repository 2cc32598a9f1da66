/- Printed by gen.py. -/
import Derived.Test.YteaoijahdinciaaF0
import Derived.Test.YteaoijahdinciaaF1
import Derived.Test.YteaoijahdinciaaF2
import Derived.Test.YteaoijahdinciaaF7
namespace Go.Proofs.Yteaoijahdinciaa
open Go Go.RowKit
set_option linter.unusedSimpArgs false
set_option linter.unusedVariables false
set_option linter.unnecessarySimpa false
/-! ### (*backstitch/shelf.Shelf).Grad -/
noncomputable def shelf_Shelf_Grad.f (x0 : Shelf) (x1 : Int) : Option (Tensor × Int) :=
  (shelf_Shelf_there.f x0 x1).bind fun r30 =>
  if r30 = 0 then (if 0 ≤ x1 ∧ x1 < (x0.grads.length : Int) then ((tensor_Copy.f (⟨(rd x0.grads x1).Shape, (rd x0.grads x1).Data⟩ : Tensor)).bind fun r44 =>
  some (r44, 0))
  else none)
  else (some ((⟨([] : (List Int)), ([] : (List Nat))⟩ : Tensor), r30))
set_option maxRecDepth 100000 in
set_option maxHeartbeats 4000000 in
theorem shelf_Shelf_Grad.calls (B0 : List (Option Nat)) (M : List (Option Nat)) (w0 : World) (x0 : Shelf) (b0 : Nat) (A0_0 : Option Addr) (n0_0 c0_0 : Nat) (e0_0 : n0_0 = x0.l.length) (A0_1 : Option Addr) (n0_1 c0_1 : Nat) (e0_1 : n0_1 = x0.vers.length) (A0_2 : Option Addr) (n0_2 c0_2 : Nat) (e0_2 : n0_2 = x0.grads.length) (x1 : Int) (hm0 : Mem B0 M w0 [.bx b0 [.slice A0_0 n0_0 c0_0, .slice A0_1 n0_1 c0_1, .slice A0_2 n0_2 c0_2] 72, .ow kTensor 29 A0_0 c0_0 x0.l, .ow (Kd.int .i64) 3 A0_1 c0_1 x0.vers, .ow kTensor 29 A0_2 c0_2 x0.grads] w0) (r : (Tensor × Int)) (H0 : shelf_Shelf_Grad.f x0 x1 = some r) :
    Calls Try.prog 13 [.pointer (some ⟨b0, 0, none⟩), .int .i64 x1].toArray w0 (fun x w' => ∃ v, x = .returned v ∧ ∃ Ar0_0 cr0_0 Ar0_1 cr0_1, v = .tuple #[.agg #[.slice Ar0_0 r.1.Shape.length cr0_0, .slice Ar0_1 r.1.Data.length cr0_1], .int .i64 r.2] ∧ Mem B0 M w0 [.bx b0 [.slice A0_0 x0.l.length c0_0, .slice A0_1 x0.vers.length c0_1, .slice A0_2 x0.grads.length c0_2] 72, .ow kTensor 29 A0_0 c0_0 x0.l, .ow (Kd.int .i64) 3 A0_1 c0_1 x0.vers, .ow kTensor 29 A0_2 c0_2 x0.grads, .ow (Kd.int .i64) 3 Ar0_0 cr0_0 r.1.Shape, .ow Kd.float 26 Ar0_1 cr0_1 r.1.Data] w') := by
  subst e0_0
  subst e0_1
  subst e0_2
  unfold shelf_Shelf_Grad.f at H0
  refine enter (n := 22) Try.func13 rfl rfl (by kernel_rfl) fun a0 (hf0 : Fr 22 a0 [(0, .pointer (some ⟨b0, 0, none⟩)), (1, .int .i64 x1)]) => ?_
  refine wp_seq ?_
  refine inReg ?_
  refine lo hf0 rfl (nw (cs := [.slice none 0 0, .slice none 0 0]) (T := 29) (d := 4) hf0 ?_)
  intro b21 w22 a23 hbb21 hx25 hg26 hf24
  have hm27 := hm0.box hbb21 hx25 hg26
  refine gg 1 [] [(0, vp b0), (1, vi x1), (4, vp b21)] hf24 ot fun a28 hf29 => ?_
  refine endL rfl ?_
  refine thenN ?_
  refine wp_seq ?_
  refine wp_seq ?_
  obtain ⟨r30, hr30, H0⟩ := ob_split H0
  refine inReg ?_
  refine gg 2 [] [(0, vp b0), (1, vi x1), (4, vp b21), (7, vp b0), (8, vi x1)] hf29 ot fun a31 hf32 => ?_
  refine lo hf32 rfl (cl 9 hf32 callable37 (shelf_Shelf_there.calls _ _ _ x0 _ _ _ _ rfl _ _ _ rfl _ _ _ rfl x1 (hm27.giveO [1, 2, 3, 4] [0] [] [.bx b0 [.slice A0_0 x0.l.length c0_0, .slice A0_1 x0.vers.length c0_1, .slice A0_2 x0.grads.length c0_2] 72, .ow kTensor 29 A0_0 c0_0 x0.l, .ow (Kd.int .i64) 3 A0_1 c0_1 x0.vers, .ow kTensor 29 A0_2 c0_2 x0.grads] _ [] rfl rfl rfl (by kernel_rfl) rfl) r30 hr30) ?_)
  rintro _ w33 a34 ⟨rfl, hk36⟩ hf35
  have hm37 := hm27.backO [1, 2, 3, 4] [0] _ _ rfl rfl (by kernel_rfl) hk36
  refine gg 1 [] [(0, vp b0), (1, vi x1), (4, vp b21), (6, vi r30)] hf35 ot fun a38 hf39 => ?_
  refine endL rfl ?_
  refine thenN ?_
  refine wp_seq ?_
  rcases if_split H0 with ⟨c40, H0⟩ | ⟨c40, H0⟩
  rotate_left
  · refine rg [.bool true] [(0, vp b0), (1, vi x1), (4, vp b21), (6, vi r30), (11, .bool true)] hf39 (oi (neT c40) ot) fun a76 hf77 => ?_
    refine thenN ?_
    refine cT hf77 ?_
    refine wp_seq ?_
    refine inReg ?_
    refine gg 2 [] [(4, vp b21), (12, .agg #[.slice none 0 0, .slice none 0 0]), (13, vi r30)] hf77 ot fun a78 hf79 => ?_
    refine lo hf79 rfl (sb (j := 0) (us := [.slice none 0 0, .slice none 0 0]) (cs' := [.slice none 0 0, .slice none 0 0]) hf79 (hm37.bxAt 4 rfl) ?_)
    intro w80 hx81 hg82
    have hm83 := hm37.setBox 4 _ rfl rfl hx81 hg82
    refine gg 1 [] [(4, vp b21), (5, vi r30)] hf79 ot fun a84 hf85 => ?_
    refine endL rfl ?_
    refine thenN ?_
    refine wp_ret ?_
    refine thenR ?_
    have hm86 := hm83.nilOw (Kd.int .i64) 3
    have hm87 := hm86.nilOw Kd.float 26
    have hm88 : Mem B0 M w0 [.bx b0 [.slice A0_0 x0.l.length c0_0, .slice A0_1 x0.vers.length c0_1, .slice A0_2 x0.grads.length c0_2] 72, .ow kTensor 29 A0_0 c0_0 x0.l, .ow (Kd.int .i64) 3 A0_1 c0_1 x0.vers, .ow kTensor 29 A0_2 c0_2 x0.grads, .ow (Kd.int .i64) 3 none 0 ([] : (List Int)), .ow Kd.float 26 none 0 ([] : (List Nat))] w80 := hm87.se [2, 3, 4, 5, 1, 0] _ rfl
    obtain rfl := Option.some.inj H0
    refine rt [.agg #[.slice none 0 0, .slice none 0 0]] [.agg #[.slice none 0 0, .slice none 0 0], .int .i64 r30] hf85 (oc (hm83.cell (j := 0) 4 rfl rfl) (oc (hm83.cell (j := 1) 4 rfl rfl) ot)) ?_
    exact ⟨_, rfl, none, 0, none, 0, rfl, hm88⟩
  refine rg [.bool false] [(0, vp b0), (1, vi x1), (4, vp b21), (6, vi r30), (11, .bool false)] hf39 (oi (neF c40) ot) fun a41 hf42 => ?_
  refine thenN ?_
  refine cF hf42 ?_
  refine wp_skip ?_
  refine thenN ?_
  refine wp_seq ?_
  obtain ⟨g43, H0⟩ := if_guard H0
  obtain ⟨r44, hr44, H0⟩ := ob_split H0
  have q45 := (hm37.owAt 3 rfl).cells x1 g43.1 g43.2
  obtain ⟨us46, hr47, hc48⟩ := q45.2
  obtain ⟨A49, c50, A51, c52, rfl, ⟨pA49, sA49⟩, ⟨pA51, sA51⟩⟩ := kTensor.open hr47
  have hm53 := hm37.elem pA49 sA49
  have hm54 := hm53.elem pA51 sA51
  refine inReg ?_
  refine gg 7 [.slice A0_2 x0.grads.length c0_2, .agg #[.slice A49 (rd x0.grads x1).Shape.length c50, .slice A51 (rd x0.grads x1).Data.length c52]] [(4, vp b21), (20, .agg #[.slice A49 (rd x0.grads x1).Shape.length c50, .slice A51 (rd x0.grads x1).Data.length c52])] hf42 (oc (hm37.cell (j := 2) 0 rfl rfl) (oi q45.1 (oi g43 (oc (hc48 0 _ rfl) (oc (hc48 1 _ rfl) ot))))) fun a55 hf56 => ?_
  refine lo hf56 rfl (cl 21 hf56 callable33 (tensor_Copy.calls _ _ _ _ _ _ rfl _ _ _ rfl (hm54.give [1, 0] [.sl (Kd.int .i64) A49 c50 (rd x0.grads x1).Shape, .sl Kd.float A51 c52 (rd x0.grads x1).Data] rfl rfl) r44 hr44) ?_)
  rintro _ w61 a62 ⟨A57, c58, A59, c60, rfl, hk65⟩ hf63
  have hm66 := hm54.back hk65
  refine lo hf63 rfl (sb (j := 0) (us := [.slice A57 r44.Shape.length c58, .slice A59 r44.Data.length c60]) (cs' := [.slice A57 r44.Shape.length c58, .slice A59 r44.Data.length c60]) hf63 (hm66.bxAt 8 rfl) ?_)
  intro w67 hx68 hg69
  have hm70 := hm66.setBox 8 _ rfl rfl hx68 hg69
  refine gg 1 [] [(4, vp b21), (5, vi 0)] hf63 ot fun a71 hf72 => ?_
  refine endL rfl ?_
  have hm73 := hm70.se [0, 1, 4, 5, 6, 7, 8] _ rfl
  refine thenN ?_
  refine wp_ret ?_
  have hm74 : Mem B0 M w0 [.bx b0 [.slice A0_0 x0.l.length c0_0, .slice A0_1 x0.vers.length c0_1, .slice A0_2 x0.grads.length c0_2] 72, .ow kTensor 29 A0_0 c0_0 x0.l, .ow (Kd.int .i64) 3 A0_1 c0_1 x0.vers, .ow kTensor 29 A0_2 c0_2 x0.grads, .ow (Kd.int .i64) 3 A57 c58 r44.Shape, .ow Kd.float 26 A59 c60 r44.Data] w67 := hm73.se [2, 3, 4, 5, 0, 1] _ rfl
  obtain rfl := Option.some.inj H0
  refine rt [.agg #[.slice A57 r44.Shape.length c58, .slice A59 r44.Data.length c60]] [.agg #[.slice A57 r44.Shape.length c58, .slice A59 r44.Data.length c60], .int .i64 0] hf72 (oc (hm73.cell (j := 0) 6 rfl rfl) (oc (hm73.cell (j := 1) 6 rfl rfl) ot)) ?_
  exact ⟨_, rfl, A57, c58, A59, c60, rfl, hm74⟩

/-! ### backstitch/backstitchlaw19.awake -/
noncomputable def law19_awake.f  : Option Bool :=
  (law19_awake_1.f 4619567317775286272).bind fun r25 =>
  (shelf_New.f ([r25] : List Tensor)).bind fun r26 =>
  onPtr r26.1 (fun y28 =>
  if r26.2 = 0 then ((law19_awake_1.f 4607182418800017408).bind fun r107 =>
  (shelf_Shelf_Commit.f y28 ([r107] : List Tensor)).bind fun r108 =>
  if r108.2 = 0 then ((law19_awake_1.f 4611686018427387904).bind fun r110 =>
  (shelf_Shelf_Commit.f (⟨y28.l, y28.vers, r108.1⟩ : Shelf) ([r110] : List Tensor)).bind fun r111 =>
  if r111.2 = 0 then ((shelf_Shelf_Grad.f (⟨y28.l, y28.vers, r111.1⟩ : Shelf) 0).bind fun r170 =>
  if r170.2 = 0 then (if (r170.1.Data.length : Int) = 1 then (if (0 : Int) ≤ 0 ∧ 0 < (r170.1.Data.length : Int) then (if (feq (rd r170.1.Data 0) 4613937818241073152) = true then (some true)
  else (some false))
  else none)
  else (some false))
  else (some false))
  else (some false))
  else (some false))
  else (some false)) (if r26.2 = 0 then (some false)
  else (some false))
set_option maxRecDepth 100000 in
set_option maxHeartbeats 4000000 in
theorem law19_awake.calls (M : List (Option Nat)) (w0 : World)  (hm0 : Mem [] M w0 [] w0) (r : Bool) (H0 : law19_awake.f = some r) :
    Calls Try.prog 9 [].toArray w0 (fun x w' => ∃ v, x = .returned v ∧ v = .bool r ∧ Mem [] M w0 [] w') := by
  unfold law19_awake.f at H0
  refine enter (n := 55) Try.func9 rfl rfl (by kernel_rfl) fun a0 (hf0 : Fr 55 a0 []) => ?_
  refine wp_seq ?_
  refine rg [] [] hf0 ot fun a21 hf22 => ?_
  refine thenN ?_
  refine wp_seq ?_
  refine rg [] [(1, .func (.func 29) #[] #[])] hf22 ot fun a23 hf24 => ?_
  refine thenN ?_
  refine wp_seq ?_
  obtain ⟨r25, hr25, H0⟩ := ob_split H0
  obtain ⟨r26, hr26, H0⟩ := ob_split H0
  rcases ptr_split H0 with ⟨c27, H0⟩ | ⟨y28, c27, H0⟩
  · refine inReg ?_
    refine gg 1 [] [(1, .func (.func 29) #[] #[]), (7, .func (.func 29) #[] #[])] hf24 ot fun a29 hf30 => ?_
    refine lo hf30 rfl (cl 8 hf30 callable29 (law19_awake_1.calls _ _ 4619567317775286272 4619567317775286272 ((FR.lit (by kernel_rfl) (by kernel_rfl))) (hm0.give [] [] rfl rfl) r25 hr25) ?_)
    rintro _ w35 a36 ⟨A31, c32, A33, c34, rfl, hk38⟩ hf37
    have hm39 := hm0.back hk38
    have hm40 := hm39.seal 0 _ rfl rfl
    have hm41 := hm40.seal 1 _ rfl rfl
    refine lo hf37 rfl (li (cs := [.slice A31 r25.Shape.length c32, .slice A33 r25.Data.length c34]) (E := 29) (len := 1) (d := 9) hf37 ?_)
    intro b42 w43 a44 hbb42 hx46 hg47 hf45
    have hm41s := hm41.still hg47
    have hm48 := Mem.lit (kd := kTensor) (xs := ([r25] : List Tensor)) hm41 hbb42 hx46 hg47 (Els.one (kd := kTensor) (us := [.slice A31 r25.Shape.length c32, .slice A33 r25.Data.length c34]) (x := r25) (kTensor.mk r25 ⟨hm41s.cpAt 0 rfl, (hm41s.slAt 0 rfl)⟩ ⟨hm41s.cpAt 1 rfl, (hm41s.slAt 1 rfl)⟩))
    refine lo hf45 rfl (cl 10 hf45 callable10 (shelf_New.calls_n _ _ _ _ _ _ rfl (hm48.give [0] [.sl kTensor (some ⟨b42, 0, none⟩) 1 ([r25] : List Tensor)] rfl rfl) r26 c27 hr26) ?_)
    rintro _ w49 a50 ⟨rfl, hk52⟩ hf51
    have hm53 := hm48.still hk52.cum.none
    refine gg 5 [] [(1, .func (.func 29) #[] #[]), (2, .pointer none), (3, vi r26.2)] hf51 ot fun a54 hf55 => ?_
    refine endL rfl ?_
    have hm56 := hm53.se [] _ rfl
    refine thenN ?_
    refine wp_seq ?_
    refine wp_seq ?_
    rcases if_split H0 with ⟨c57, H0⟩ | ⟨c57, H0⟩
    · refine rg [.bool false] [(2, .pointer none), (34, .bool true)] hf55 (oi (neF c57) ot) fun a58 hf59 => ?_
      refine thenN ?_
      refine cT hf59 ?_
      refine wp_seq ?_
      refine rg [] [(0, .bool false)] hf59 ot fun a60 hf61 => ?_
      refine thenN ?_
      refine wp_ret ?_
      refine thenR ?_
      have hm62 : Mem [] M w0 [] w49 := hm56.se [] _ rfl
      obtain rfl := Option.some.inj H0
      refine rt [] [.bool false] hf61 ot ?_
      exact ⟨_, rfl, rfl, hm62⟩
    refine rg [.bool true] [(2, .pointer none), (34, .bool true)] hf55 (oi (neT c57) ot) fun a65 hf66 => ?_
    refine thenN ?_
    refine cT hf66 ?_
    refine wp_seq ?_
    refine rg [] [(0, .bool false)] hf66 ot fun a67 hf68 => ?_
    refine thenN ?_
    refine wp_ret ?_
    refine thenR ?_
    have hm69 : Mem [] M w0 [] w49 := hm56.se [] _ rfl
    obtain rfl := Option.some.inj H0
    refine rt [] [.bool false] hf68 ot ?_
    exact ⟨_, rfl, rfl, hm69⟩
  · refine inReg ?_
    refine gg 1 [] [(1, .func (.func 29) #[] #[]), (7, .func (.func 29) #[] #[])] hf24 ot fun a71 hf72 => ?_
    refine lo hf72 rfl (cl 8 hf72 callable29 (law19_awake_1.calls _ _ 4619567317775286272 4619567317775286272 ((FR.lit (by kernel_rfl) (by kernel_rfl))) (hm0.give [] [] rfl rfl) r25 hr25) ?_)
    rintro _ w77 a78 ⟨A73, c74, A75, c76, rfl, hk80⟩ hf79
    have hm81 := hm0.back hk80
    have hm82 := hm81.seal 0 _ rfl rfl
    have hm83 := hm82.seal 1 _ rfl rfl
    refine lo hf79 rfl (li (cs := [.slice A73 r25.Shape.length c74, .slice A75 r25.Data.length c76]) (E := 29) (len := 1) (d := 9) hf79 ?_)
    intro b84 w85 a86 hbb84 hx88 hg89 hf87
    have hm83s := hm83.still hg89
    have hm90 := Mem.lit (kd := kTensor) (xs := ([r25] : List Tensor)) hm83 hbb84 hx88 hg89 (Els.one (kd := kTensor) (us := [.slice A73 r25.Shape.length c74, .slice A75 r25.Data.length c76]) (x := r25) (kTensor.mk r25 ⟨hm83s.cpAt 0 rfl, (hm83s.slAt 0 rfl)⟩ ⟨hm83s.cpAt 1 rfl, (hm83s.slAt 1 rfl)⟩))
    refine lo hf87 rfl (cl 10 hf87 callable10 (shelf_New.calls_s _ _ _ _ _ _ rfl (hm90.give [0] [.sl kTensor (some ⟨b84, 0, none⟩) 1 ([r25] : List Tensor)] rfl rfl) r26 y28 c27 hr26) ?_)
    rintro _ w98 a99 ⟨b91, A92, c93, A94, c95, A96, c97, rfl, hk101⟩ hf100
    have hm102 := hm90.back hk101
    refine gg 5 [] [(1, .func (.func 29) #[] #[]), (2, vp b91), (3, vi r26.2)] hf100 ot fun a103 hf104 => ?_
    refine endL rfl ?_
    have hm105 := hm102.se [0, 1, 2, 3] _ rfl
    refine thenN ?_
    refine wp_seq ?_
    refine wp_seq ?_
    rcases if_split H0 with ⟨c106, H0⟩ | ⟨c106, H0⟩
    rotate_left
    · refine rg [.bool true] [(2, vp b91), (34, .bool true)] hf104 (oi (neT c106) ot) fun a325 hf326 => ?_
      refine thenN ?_
      refine cT hf326 ?_
      refine wp_seq ?_
      refine rg [] [(0, .bool false)] hf326 ot fun a327 hf328 => ?_
      have hm329 := hm105.se [] _ rfl
      refine thenN ?_
      refine wp_ret ?_
      refine thenR ?_
      have hm330 : Mem [] M w0 [] w98 := hm329.se [] _ rfl
      obtain rfl := Option.some.inj H0
      refine rt [] [.bool false] hf328 ot ?_
      exact ⟨_, rfl, rfl, hm330⟩
    obtain ⟨r107, hr107, H0⟩ := ob_split H0
    obtain ⟨r108, hr108, H0⟩ := ob_split H0
    rcases if_split H0 with ⟨c109, H0⟩ | ⟨c109, H0⟩
    rotate_left
    · refine inReg ?_
      refine gg 9 [.bool false] [(1, .func (.func 29) #[] #[]), (2, vp b91), (19, .bool false), (20, vp b91), (21, .func (.func 29) #[] #[])] hf104 (oi (neF c106) ot) fun a290 hf291 => ?_
      refine lo hf291 rfl (cl 22 hf291 callable29 (law19_awake_1.calls _ _ 4607182418800017408 4607182418800017408 ((FR.lit (by kernel_rfl) (by kernel_rfl))) (hm105.give [] [] rfl rfl) r107 hr107) ?_)
      rintro _ w296 a297 ⟨A292, c293, A294, c295, rfl, hk299⟩ hf298
      have hm300 := hm105.back hk299
      have hm301 := hm300.seal 0 _ rfl rfl
      have hm302 := hm301.seal 1 _ rfl rfl
      refine lo hf298 rfl (li (cs := [.slice A292 r107.Shape.length c293, .slice A294 r107.Data.length c295]) (E := 29) (len := 1) (d := 23) hf298 ?_)
      intro b303 w304 a305 hbb303 hx307 hg308 hf306
      have hm302s := hm302.still hg308
      have hm309 := Mem.lit (kd := kTensor) (xs := ([r107] : List Tensor)) hm302 hbb303 hx307 hg308 (Els.one (kd := kTensor) (us := [.slice A292 r107.Shape.length c293, .slice A294 r107.Data.length c295]) (x := r107) (kTensor.mk r107 ⟨hm302s.cpAt 0 rfl, (hm302s.slAt 0 rfl)⟩ ⟨hm302s.cpAt 1 rfl, (hm302s.slAt 1 rfl)⟩))
      refine lo hf306 rfl (cl 24 hf306 callable11 (shelf_Shelf_Commit.calls _ _ _ y28 _ _ _ _ rfl _ _ _ rfl _ _ _ rfl _ _ _ _ rfl (hm309.giveO [3, 4, 5, 6] [0, 1, 2] [0] [.bx b91 [.slice A92 y28.l.length c93, .slice A94 y28.vers.length c95, .slice A96 y28.grads.length c97] 72, .ow kTensor 29 A92 c93 y28.l, .ow (Kd.int .i64) 3 A94 c95 y28.vers, .ow kTensor 29 A96 c97 y28.grads] _ [.sl kTensor (some ⟨b303, 0, none⟩) 1 ([r107] : List Tensor)] rfl rfl rfl (by kernel_rfl) rfl) r108 hr108) ?_)
      rintro _ w312 a313 ⟨A310, c311, rfl, hk315⟩ hf314
      have hm316 := hm309.backO [3, 4, 5, 6] [0, 1, 2] _ _ rfl rfl (by kernel_rfl) hk315
      refine gg 10 [.bool true] [(2, vp b91), (34, .bool true)] hf314 (oi (neT c109) ot) fun a317 hf318 => ?_
      refine endL rfl ?_
      have hm319 := hm316.se [0, 1, 2, 3] _ rfl
      refine thenN ?_
      refine cT hf318 ?_
      refine wp_seq ?_
      refine rg [] [(0, .bool false)] hf318 ot fun a320 hf321 => ?_
      have hm322 := hm319.se [] _ rfl
      refine thenN ?_
      refine wp_ret ?_
      refine thenR ?_
      have hm323 : Mem [] M w0 [] w312 := hm322.se [] _ rfl
      obtain rfl := Option.some.inj H0
      refine rt [] [.bool false] hf321 ot ?_
      exact ⟨_, rfl, rfl, hm323⟩
    obtain ⟨r110, hr110, H0⟩ := ob_split H0
    obtain ⟨r111, hr111, H0⟩ := ob_split H0
    rcases if_split H0 with ⟨c112, H0⟩ | ⟨c112, H0⟩
    rotate_left
    · refine inReg ?_
      refine gg 9 [.bool false] [(1, .func (.func 29) #[] #[]), (2, vp b91), (19, .bool false), (20, vp b91), (21, .func (.func 29) #[] #[])] hf104 (oi (neF c106) ot) fun a228 hf229 => ?_
      refine lo hf229 rfl (cl 22 hf229 callable29 (law19_awake_1.calls _ _ 4607182418800017408 4607182418800017408 ((FR.lit (by kernel_rfl) (by kernel_rfl))) (hm105.give [] [] rfl rfl) r107 hr107) ?_)
      rintro _ w234 a235 ⟨A230, c231, A232, c233, rfl, hk237⟩ hf236
      have hm238 := hm105.back hk237
      have hm239 := hm238.seal 0 _ rfl rfl
      have hm240 := hm239.seal 1 _ rfl rfl
      refine lo hf236 rfl (li (cs := [.slice A230 r107.Shape.length c231, .slice A232 r107.Data.length c233]) (E := 29) (len := 1) (d := 23) hf236 ?_)
      intro b241 w242 a243 hbb241 hx245 hg246 hf244
      have hm240s := hm240.still hg246
      have hm247 := Mem.lit (kd := kTensor) (xs := ([r107] : List Tensor)) hm240 hbb241 hx245 hg246 (Els.one (kd := kTensor) (us := [.slice A230 r107.Shape.length c231, .slice A232 r107.Data.length c233]) (x := r107) (kTensor.mk r107 ⟨hm240s.cpAt 0 rfl, (hm240s.slAt 0 rfl)⟩ ⟨hm240s.cpAt 1 rfl, (hm240s.slAt 1 rfl)⟩))
      refine lo hf244 rfl (cl 24 hf244 callable11 (shelf_Shelf_Commit.calls _ _ _ y28 _ _ _ _ rfl _ _ _ rfl _ _ _ rfl _ _ _ _ rfl (hm247.giveO [3, 4, 5, 6] [0, 1, 2] [0] [.bx b91 [.slice A92 y28.l.length c93, .slice A94 y28.vers.length c95, .slice A96 y28.grads.length c97] 72, .ow kTensor 29 A92 c93 y28.l, .ow (Kd.int .i64) 3 A94 c95 y28.vers, .ow kTensor 29 A96 c97 y28.grads] _ [.sl kTensor (some ⟨b241, 0, none⟩) 1 ([r107] : List Tensor)] rfl rfl rfl (by kernel_rfl) rfl) r108 hr108) ?_)
      rintro _ w250 a251 ⟨A248, c249, rfl, hk253⟩ hf252
      have hm254 := hm247.backO [3, 4, 5, 6] [0, 1, 2] _ _ rfl rfl (by kernel_rfl) hk253
      refine gg 5 [.bool false] [(2, vp b91), (27, .bool false), (28, vp b91), (29, .func (.func 29) #[] #[])] hf252 (oi (neF c109) ot) fun a255 hf256 => ?_
      refine lo hf256 rfl (cl 30 hf256 callable29 (law19_awake_1.calls _ _ 4611686018427387904 4611686018427387904 ((FR.lit (by kernel_rfl) (by kernel_rfl))) (hm254.give [] [] rfl rfl) r110 hr110) ?_)
      rintro _ w261 a262 ⟨A257, c258, A259, c260, rfl, hk264⟩ hf263
      have hm265 := hm254.back hk264
      have hm266 := hm265.seal 0 _ rfl rfl
      have hm267 := hm266.seal 1 _ rfl rfl
      refine lo hf263 rfl (li (cs := [.slice A257 r110.Shape.length c258, .slice A259 r110.Data.length c260]) (E := 29) (len := 1) (d := 31) hf263 ?_)
      intro b268 w269 a270 hbb268 hx272 hg273 hf271
      have hm267s := hm267.still hg273
      have hm274 := Mem.lit (kd := kTensor) (xs := ([r110] : List Tensor)) hm267 hbb268 hx272 hg273 (Els.one (kd := kTensor) (us := [.slice A257 r110.Shape.length c258, .slice A259 r110.Data.length c260]) (x := r110) (kTensor.mk r110 ⟨hm267s.cpAt 0 rfl, (hm267s.slAt 0 rfl)⟩ ⟨hm267s.cpAt 1 rfl, (hm267s.slAt 1 rfl)⟩))
      refine lo hf271 rfl (cl 32 hf271 callable11 (shelf_Shelf_Commit.calls _ _ _ (⟨y28.l, y28.vers, r108.1⟩ : Shelf) _ _ _ _ rfl _ _ _ rfl _ _ _ rfl _ _ _ _ rfl (hm274.giveO [3, 4, 5, 6] [0, 1, 2, 7, 8, 9] [0] [.bx b91 [.slice A92 y28.l.length c93, .slice A94 y28.vers.length c95, .slice A248 r108.1.length c249] 72, .ow kTensor 29 A92 c93 y28.l, .ow (Kd.int .i64) 3 A94 c95 y28.vers, .ow kTensor 29 A248 c249 r108.1] _ [.sl kTensor (some ⟨b268, 0, none⟩) 1 ([r110] : List Tensor)] rfl rfl rfl (by kernel_rfl) rfl) r111 hr111) ?_)
      rintro _ w277 a278 ⟨A275, c276, rfl, hk280⟩ hf279
      have hm281 := hm274.backO [3, 4, 5, 6] [0, 1, 2, 7, 8, 9] _ _ rfl rfl (by kernel_rfl) hk280
      refine gg 2 [.bool true] [(2, vp b91), (34, .bool true)] hf279 (oi (neT c112) ot) fun a282 hf283 => ?_
      refine endL rfl ?_
      have hm284 := hm281.se [0, 1, 2, 3] _ rfl
      refine thenN ?_
      refine cT hf283 ?_
      refine wp_seq ?_
      refine rg [] [(0, .bool false)] hf283 ot fun a285 hf286 => ?_
      have hm287 := hm284.se [] _ rfl
      refine thenN ?_
      refine wp_ret ?_
      refine thenR ?_
      have hm288 : Mem [] M w0 [] w277 := hm287.se [] _ rfl
      obtain rfl := Option.some.inj H0
      refine rt [] [.bool false] hf286 ot ?_
      exact ⟨_, rfl, rfl, hm288⟩
    refine inReg ?_
    refine gg 9 [.bool false] [(1, .func (.func 29) #[] #[]), (2, vp b91), (19, .bool false), (20, vp b91), (21, .func (.func 29) #[] #[])] hf104 (oi (neF c106) ot) fun a113 hf114 => ?_
    refine lo hf114 rfl (cl 22 hf114 callable29 (law19_awake_1.calls _ _ 4607182418800017408 4607182418800017408 ((FR.lit (by kernel_rfl) (by kernel_rfl))) (hm105.give [] [] rfl rfl) r107 hr107) ?_)
    rintro _ w119 a120 ⟨A115, c116, A117, c118, rfl, hk122⟩ hf121
    have hm123 := hm105.back hk122
    have hm124 := hm123.seal 0 _ rfl rfl
    have hm125 := hm124.seal 1 _ rfl rfl
    refine lo hf121 rfl (li (cs := [.slice A115 r107.Shape.length c116, .slice A117 r107.Data.length c118]) (E := 29) (len := 1) (d := 23) hf121 ?_)
    intro b126 w127 a128 hbb126 hx130 hg131 hf129
    have hm125s := hm125.still hg131
    have hm132 := Mem.lit (kd := kTensor) (xs := ([r107] : List Tensor)) hm125 hbb126 hx130 hg131 (Els.one (kd := kTensor) (us := [.slice A115 r107.Shape.length c116, .slice A117 r107.Data.length c118]) (x := r107) (kTensor.mk r107 ⟨hm125s.cpAt 0 rfl, (hm125s.slAt 0 rfl)⟩ ⟨hm125s.cpAt 1 rfl, (hm125s.slAt 1 rfl)⟩))
    refine lo hf129 rfl (cl 24 hf129 callable11 (shelf_Shelf_Commit.calls _ _ _ y28 _ _ _ _ rfl _ _ _ rfl _ _ _ rfl _ _ _ _ rfl (hm132.giveO [3, 4, 5, 6] [0, 1, 2] [0] [.bx b91 [.slice A92 y28.l.length c93, .slice A94 y28.vers.length c95, .slice A96 y28.grads.length c97] 72, .ow kTensor 29 A92 c93 y28.l, .ow (Kd.int .i64) 3 A94 c95 y28.vers, .ow kTensor 29 A96 c97 y28.grads] _ [.sl kTensor (some ⟨b126, 0, none⟩) 1 ([r107] : List Tensor)] rfl rfl rfl (by kernel_rfl) rfl) r108 hr108) ?_)
    rintro _ w135 a136 ⟨A133, c134, rfl, hk138⟩ hf137
    have hm139 := hm132.backO [3, 4, 5, 6] [0, 1, 2] _ _ rfl rfl (by kernel_rfl) hk138
    refine gg 5 [.bool false] [(2, vp b91), (27, .bool false), (28, vp b91), (29, .func (.func 29) #[] #[])] hf137 (oi (neF c109) ot) fun a140 hf141 => ?_
    refine lo hf141 rfl (cl 30 hf141 callable29 (law19_awake_1.calls _ _ 4611686018427387904 4611686018427387904 ((FR.lit (by kernel_rfl) (by kernel_rfl))) (hm139.give [] [] rfl rfl) r110 hr110) ?_)
    rintro _ w146 a147 ⟨A142, c143, A144, c145, rfl, hk149⟩ hf148
    have hm150 := hm139.back hk149
    have hm151 := hm150.seal 0 _ rfl rfl
    have hm152 := hm151.seal 1 _ rfl rfl
    refine lo hf148 rfl (li (cs := [.slice A142 r110.Shape.length c143, .slice A144 r110.Data.length c145]) (E := 29) (len := 1) (d := 31) hf148 ?_)
    intro b153 w154 a155 hbb153 hx157 hg158 hf156
    have hm152s := hm152.still hg158
    have hm159 := Mem.lit (kd := kTensor) (xs := ([r110] : List Tensor)) hm152 hbb153 hx157 hg158 (Els.one (kd := kTensor) (us := [.slice A142 r110.Shape.length c143, .slice A144 r110.Data.length c145]) (x := r110) (kTensor.mk r110 ⟨hm152s.cpAt 0 rfl, (hm152s.slAt 0 rfl)⟩ ⟨hm152s.cpAt 1 rfl, (hm152s.slAt 1 rfl)⟩))
    refine lo hf156 rfl (cl 32 hf156 callable11 (shelf_Shelf_Commit.calls _ _ _ (⟨y28.l, y28.vers, r108.1⟩ : Shelf) _ _ _ _ rfl _ _ _ rfl _ _ _ rfl _ _ _ _ rfl (hm159.giveO [3, 4, 5, 6] [0, 1, 2, 7, 8, 9] [0] [.bx b91 [.slice A92 y28.l.length c93, .slice A94 y28.vers.length c95, .slice A133 r108.1.length c134] 72, .ow kTensor 29 A92 c93 y28.l, .ow (Kd.int .i64) 3 A94 c95 y28.vers, .ow kTensor 29 A133 c134 r108.1] _ [.sl kTensor (some ⟨b153, 0, none⟩) 1 ([r110] : List Tensor)] rfl rfl rfl (by kernel_rfl) rfl) r111 hr111) ?_)
    rintro _ w162 a163 ⟨A160, c161, rfl, hk165⟩ hf164
    have hm166 := hm159.backO [3, 4, 5, 6] [0, 1, 2, 7, 8, 9] _ _ rfl rfl (by kernel_rfl) hk165
    refine gg 2 [.bool false] [(2, vp b91), (34, .bool false)] hf164 (oi (neF c112) ot) fun a167 hf168 => ?_
    refine endL rfl ?_
    have hm169 := hm166.se [0, 1, 2, 3] _ rfl
    refine thenN ?_
    refine cF hf168 ?_
    refine wp_skip ?_
    refine thenN ?_
    refine wp_seq ?_
    obtain ⟨r170, hr170, H0⟩ := ob_split H0
    refine inReg ?_
    refine gg 1 [] [(36, vp b91)] hf168 ot fun a171 hf172 => ?_
    refine lo hf172 rfl (cl 37 hf172 callable13 (shelf_Shelf_Grad.calls _ _ _ (⟨y28.l, y28.vers, r111.1⟩ : Shelf) _ _ _ _ rfl _ _ _ rfl _ _ _ rfl 0 (hm169.giveO [0, 1, 2, 3] [] [] [.bx b91 [.slice A92 y28.l.length c93, .slice A94 y28.vers.length c95, .slice A160 r111.1.length c161] 72, .ow kTensor 29 A92 c93 y28.l, .ow (Kd.int .i64) 3 A94 c95 y28.vers, .ow kTensor 29 A160 c161 r111.1] _ [] rfl rfl rfl (by kernel_rfl) rfl) r170 hr170) ?_)
    rintro _ w177 a178 ⟨A173, c174, A175, c176, rfl, hk180⟩ hf179
    have hm181 := hm169.backO [0, 1, 2, 3] [] _ _ rfl rfl (by kernel_rfl) hk180
    have hm182 := hm181.seal 4 _ rfl rfl
    have hm183 := hm182.seal 5 _ rfl rfl
    refine gg 3 [] [(38, .agg #[.slice A173 r170.1.Shape.length c174, .slice A175 r170.1.Data.length c176]), (39, vi r170.2)] hf179 ot fun a184 hf185 => ?_
    refine lo hf185 rfl (nw (cs := [.slice none 0 0, .slice none 0 0]) (T := 29) (d := 4) hf185 ?_)
    intro b186 w187 a188 hbb186 hx190 hg191 hf189
    have hm192 := hm183.box hbb186 hx190 hg191
    refine lo hf189 rfl (sb (j := 0) (us := [.slice A173 r170.1.Shape.length c174, .slice A175 r170.1.Data.length c176]) (cs' := [.slice A173 r170.1.Shape.length c174, .slice A175 r170.1.Data.length c176]) hf189 (hm192.bxAt 0 rfl) ?_)
    intro w193 hx194 hg195
    have hm196 := hm192.setBox 0 _ rfl rfl hx194 hg195
    refine gg 1 [] [(4, vp b186), (5, vi r170.2)] hf189 ot fun a197 hf198 => ?_
    refine endL rfl ?_
    have hm199 := hm196.se [0, 5, 6] _ rfl
    refine thenN ?_
    refine wp_seq ?_
    rcases if_split H0 with ⟨c200, H0⟩ | ⟨c200, H0⟩
    rotate_left
    · refine rg [.bool false] [(0, .bool false)] hf198 (oi (eqF c200) ot) fun a223 hf224 => ?_
      have hm225 := hm199.se [] _ rfl
      refine thenN ?_
      refine wp_ret ?_
      have hm226 : Mem [] M w0 [] w193 := hm225.se [] _ rfl
      obtain rfl := Option.some.inj H0
      refine rt [] [.bool false] hf224 ot ?_
      exact ⟨_, rfl, rfl, hm226⟩
    rcases if_split H0 with ⟨c201, H0⟩ | ⟨c201, H0⟩
    rotate_left
    · refine rg [.bool true, .slice A175 r170.1.Data.length c176, .bool false] [(0, .bool false)] hf198 (oi (eqT c200) (oc (hm199.cell (j := 1) 0 rfl rfl) (oi (eqF c201) ot))) fun a218 hf219 => ?_
      have hm220 := hm199.se [] _ rfl
      refine thenN ?_
      refine wp_ret ?_
      have hm221 : Mem [] M w0 [] w193 := hm220.se [] _ rfl
      obtain rfl := Option.some.inj H0
      refine rt [] [.bool false] hf219 ot ?_
      exact ⟨_, rfl, rfl, hm221⟩
    obtain ⟨g202, H0⟩ := if_guard H0
    rcases ifb_split H0 with ⟨c203, H0⟩ | ⟨c203, H0⟩
    · have q204 := (hm199.slAt 2 rfl).float 0 g202.1 g202.2
      obtain ⟨b205, hb205, kb205⟩ := q204.2
      refine rg (ob := [.is (((r170.2 : Int) == 0) = true), .cell ⟨b186, 1, none⟩ (.slice A175 r170.1.Data.length c176), .is ((((r170.1.Data.length : Int) : Int) == 1) = true), .cell ⟨b186, 1, none⟩ (.slice A175 r170.1.Data.length c176), .is (Option.isSome A175 = true), .is ((0 : Int) ≤ 0 ∧ 0 < (r170.1.Data.length : Int)), .cell ((ad A175).add ((0 : Int).toNat * 1)) (.float .f64 b205), .is ((FloatKind.f64.format.order b205 4613937818241073152 == some .eq) = true)]) [.bool true, .slice A175 r170.1.Data.length c176, .bool true, .slice A175 r170.1.Data.length c176, .float .f64 b205, .bool true] [(0, .bool true)] hf198 ⟨(eqT c200), (hm199.cell 0 rfl rfl), (eqT c201), (hm199.cell 0 rfl rfl), q204.1, g202, kb205, (ftEq hb205 (FR.lit (by kernel_rfl) (by kernel_rfl)) c203), trivial⟩ fun a206 hf207 => ?_
      have hm208 := hm199.se [] _ rfl
      refine thenN ?_
      refine wp_ret ?_
      have hm209 : Mem [] M w0 [] w193 := hm208.se [] _ rfl
      obtain rfl := Option.some.inj H0
      refine rt [] [.bool true] hf207 ot ?_
      exact ⟨_, rfl, rfl, hm209⟩
    have q211 := (hm199.slAt 2 rfl).float 0 g202.1 g202.2
    obtain ⟨b212, hb212, kb212⟩ := q211.2
    refine rg (ob := [.is (((r170.2 : Int) == 0) = true), .cell ⟨b186, 1, none⟩ (.slice A175 r170.1.Data.length c176), .is ((((r170.1.Data.length : Int) : Int) == 1) = true), .cell ⟨b186, 1, none⟩ (.slice A175 r170.1.Data.length c176), .is (Option.isSome A175 = true), .is ((0 : Int) ≤ 0 ∧ 0 < (r170.1.Data.length : Int)), .cell ((ad A175).add ((0 : Int).toNat * 1)) (.float .f64 b212), .is ((FloatKind.f64.format.order b212 4613937818241073152 == some .eq) = false)]) [.bool true, .slice A175 r170.1.Data.length c176, .bool true, .slice A175 r170.1.Data.length c176, .float .f64 b212, .bool false] [(0, .bool false)] hf198 ⟨(eqT c200), (hm199.cell 0 rfl rfl), (eqT c201), (hm199.cell 0 rfl rfl), q211.1, g202, kb212, (ftEq hb212 (FR.lit (by kernel_rfl) (by kernel_rfl)) c203), trivial⟩ fun a213 hf214 => ?_
    have hm215 := hm199.se [] _ rfl
    refine thenN ?_
    refine wp_ret ?_
    have hm216 : Mem [] M w0 [] w193 := hm215.se [] _ rfl
    obtain rfl := Option.some.inj H0
    refine rt [] [.bool false] hf214 ot ?_
    exact ⟨_, rfl, rfl, hm216⟩

/-! ### backstitch/backstitchlaw3.Small -/
noncomputable def law3_Small.f (x0 : Tensor) : Option Bool :=
  if (x0.Shape.length : Int) ≤ 40 then (if (x0.Data.length : Int) ≤ 8192 then (some true)
  else (some false))
  else (some false)
set_option maxRecDepth 100000 in
set_option maxHeartbeats 4000000 in
theorem law3_Small.calls (M : List (Option Nat)) (w0 : World) (x0 : Tensor) (A0_0 : Option Addr) (n0_0 c0_0 : Nat) (e0_0 : n0_0 = x0.Shape.length) (A0_1 : Option Addr) (n0_1 c0_1 : Nat) (e0_1 : n0_1 = x0.Data.length) (hm0 : Mem [] M w0 [.sl (Kd.int .i64) A0_0 c0_0 x0.Shape, .sl Kd.float A0_1 c0_1 x0.Data] w0) (r : Bool) (H0 : law3_Small.f x0 = some r) :
    Calls Try.prog 20 [.agg #[.slice A0_0 n0_0 c0_0, .slice A0_1 n0_1 c0_1]].toArray w0 (fun x w' => ∃ v, x = .returned v ∧ v = .bool r ∧ Mem [] M w0 [] w') := by
  subst e0_0
  subst e0_1
  unfold law3_Small.f at H0
  refine enter (n := 13) Try.func20 rfl rfl (by kernel_rfl) fun a0 (hf0 : Fr 13 a0 [(0, .agg #[.slice A0_0 x0.Shape.length c0_0, .slice A0_1 x0.Data.length c0_1])]) => ?_
  refine wp_seq ?_
  refine inReg ?_
  refine lo hf0 rfl (nw (cs := [.slice A0_0 x0.Shape.length c0_0, .slice A0_1 x0.Data.length c0_1]) (T := 29) (d := 1) hf0 ?_)
  intro b21 w22 a23 hbb21 hx25 hg26 hf24
  have hm27 := hm0.box hbb21 hx25 hg26
  refine gg 1 [] [(1, vp b21)] hf24 ot fun a28 hf29 => ?_
  refine endL rfl ?_
  refine thenN ?_
  refine wp_seq ?_
  rcases if_split H0 with ⟨c30, H0⟩ | ⟨c30, H0⟩
  rotate_left
  · refine rg (ob := [.cell ⟨b21, 0, none⟩ (.slice A0_0 x0.Shape.length c0_0), .is (decide ((x0.Shape.length : Int) ≤ 40) = false)]) [.slice A0_0 x0.Shape.length c0_0, .bool false] [(2, .bool false)] hf29 ⟨(hm27.cell 0 rfl rfl), (decide_eq_false c30), trivial⟩ fun a42 hf43 => ?_
    have hm44 := hm27.se [] _ rfl
    refine thenN ?_
    refine wp_ret ?_
    have hm45 : Mem [] M w0 [] w22 := hm44.se [] _ rfl
    obtain rfl := Option.some.inj H0
    refine rt [] [.bool false] hf43 ot ?_
    exact ⟨_, rfl, rfl, hm45⟩
  rcases if_split H0 with ⟨c31, H0⟩ | ⟨c31, H0⟩
  · refine rg (ob := [.cell ⟨b21, 0, none⟩ (.slice A0_0 x0.Shape.length c0_0), .is (decide ((x0.Shape.length : Int) ≤ 40) = true), .cell ⟨b21, 1, none⟩ (.slice A0_1 x0.Data.length c0_1), .is (decide ((x0.Data.length : Int) ≤ 8192) = true)]) [.slice A0_0 x0.Shape.length c0_0, .bool true, .slice A0_1 x0.Data.length c0_1, .bool true] [(2, .bool true)] hf29 ⟨(hm27.cell 0 rfl rfl), (decide_eq_true c30), (hm27.cell 0 rfl rfl), (decide_eq_true c31), trivial⟩ fun a32 hf33 => ?_
    have hm34 := hm27.se [] _ rfl
    refine thenN ?_
    refine wp_ret ?_
    have hm35 : Mem [] M w0 [] w22 := hm34.se [] _ rfl
    obtain rfl := Option.some.inj H0
    refine rt [] [.bool true] hf33 ot ?_
    exact ⟨_, rfl, rfl, hm35⟩
  refine rg (ob := [.cell ⟨b21, 0, none⟩ (.slice A0_0 x0.Shape.length c0_0), .is (decide ((x0.Shape.length : Int) ≤ 40) = true), .cell ⟨b21, 1, none⟩ (.slice A0_1 x0.Data.length c0_1), .is (decide ((x0.Data.length : Int) ≤ 8192) = false)]) [.slice A0_0 x0.Shape.length c0_0, .bool true, .slice A0_1 x0.Data.length c0_1, .bool false] [(2, .bool false)] hf29 ⟨(hm27.cell 0 rfl rfl), (decide_eq_true c30), (hm27.cell 0 rfl rfl), (decide_eq_false c31), trivial⟩ fun a37 hf38 => ?_
  have hm39 := hm27.se [] _ rfl
  refine thenN ?_
  refine wp_ret ?_
  have hm40 : Mem [] M w0 [] w22 := hm39.se [] _ rfl
  obtain rfl := Option.some.inj H0
  refine rt [] [.bool false] hf38 ot ?_
  exact ⟨_, rfl, rfl, hm40⟩
end Go.Proofs.Yteaoijahdinciaa
