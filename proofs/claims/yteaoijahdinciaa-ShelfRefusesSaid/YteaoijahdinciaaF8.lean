/- Printed by gen.py. -/
import Derived.Test.YteaoijahdinciaaF0
import Derived.Test.YteaoijahdinciaaF1
import Derived.Test.YteaoijahdinciaaF2
import Derived.Test.YteaoijahdinciaaF7
namespace Go.Proofs.Yteaoijahdinciaa
open Go Go.RowKit
set_option linter.unusedSimpArgs false
set_option linter.unusedVariables false
set_option linter.unnecessarySimpa false
/-! ### (*backstitch/shelf.Shelf).Grad -/
noncomputable def shelf_Shelf_Grad.f (x0 : Shelf) (x1 : Int) : Option (Tensor × Int) :=
  (shelf_Shelf_there.f x0 x1).bind fun r30 =>
  if r30 = 0 then (if 0 ≤ x1 ∧ x1 < (x0.grads.length : Int) then ((tensor_Copy.f (⟨((rd x0.grads x1).Shape), ((rd x0.grads x1).Data)⟩ : Tensor)).bind fun r44 =>
  some (r44, 0))
  else none)
  else (some ((⟨([] : (List Int)), ([] : (List Nat))⟩ : Tensor), r30))
set_option maxRecDepth 100000 in
set_option maxHeartbeats 4000000 in
theorem shelf_Shelf_Grad.calls (B0 : List (Option Nat)) (M : List (Option Nat)) (w0 : World) (x0 : Shelf) (b0 : Nat) (A0_0 : Option Addr) (n0_0 c0_0 : Nat) (e0_0 : n0_0 = x0.l.length) (A0_1 : Option Addr) (n0_1 c0_1 : Nat) (e0_1 : n0_1 = x0.vers.length) (A0_2 : Option Addr) (n0_2 c0_2 : Nat) (e0_2 : n0_2 = x0.grads.length) (x1 : Int) (hm0 : Mem B0 M w0 [.bx b0 [.slice A0_0 n0_0 c0_0, .slice A0_1 n0_1 c0_1, .slice A0_2 n0_2 c0_2] 72, .ow kTensor 29 A0_0 c0_0 x0.l, .ow (Kd.int .i64) 3 A0_1 c0_1 x0.vers, .ow kTensor 29 A0_2 c0_2 x0.grads] w0) (r : (Tensor × Int)) (H0 : shelf_Shelf_Grad.f x0 x1 = some r) :
    Calls Try.prog 13 [.pointer (some ⟨b0, 0, none⟩), .int .i64 x1].toArray w0 (fun x w' => ∃ v, x = .returned v ∧ ∃ Ar0_0 cr0_0 Ar0_1 cr0_1, v = .tuple #[.agg #[.slice Ar0_0 r.1.Shape.length cr0_0, .slice Ar0_1 r.1.Data.length cr0_1], .int .i64 r.2] ∧ Mem B0 M w0 [.bx b0 [.slice A0_0 x0.l.length c0_0, .slice A0_1 x0.vers.length c0_1, .slice A0_2 x0.grads.length c0_2] 72, .ow kTensor 29 A0_0 c0_0 x0.l, .ow (Kd.int .i64) 3 A0_1 c0_1 x0.vers, .ow kTensor 29 A0_2 c0_2 x0.grads, .ow (Kd.int .i64) 3 Ar0_0 cr0_0 r.1.Shape, .ow Kd.float 26 Ar0_1 cr0_1 r.1.Data] w') := by
  subst e0_0
  subst e0_1
  subst e0_2
  unfold shelf_Shelf_Grad.f at H0
  refine enter (n := 22) Try.func13 rfl rfl (by kernel_rfl) fun a0 (hf0 : Fr 22 a0 [(0, .pointer (some ⟨b0, 0, none⟩)), (1, .int .i64 x1)]) => ?_
  refine wp_seq ?_
  refine inReg ?_
  refine listOf hf0 rfl (by kernel_rfl) (aNew (cs := [.slice none 0 0, .slice none 0 0]) (T := 29) (d := 4) hf0 (by kernel_rfl) (by kernel_rfl) ?_)
  intro b21 w22 a23 hbb21 hx25 hg26 hf24
  have hm27 := hm0.box hbb21 hx25 hg26
  refine go 1 [] [0, 1, 4] [(0, .pointer (some ⟨b0, 0, none⟩)), (1, .int .i64 x1), (4, .pointer (some ⟨b21, 0, none⟩))] [] hf24 (by kernel_rfl) trivial fun a28 hf29 => ?_
  refine endL rfl ?_
  refine thenN ?_
  refine wp_seq ?_
  refine wp_seq ?_
  obtain ⟨r30, hr30, H0⟩ := ob_split H0
  refine inReg ?_
  refine go 2 [] [0, 1, 4, 7, 8] [(0, .pointer (some ⟨b0, 0, none⟩)), (1, .int .i64 x1), (4, .pointer (some ⟨b21, 0, none⟩)), (7, .pointer (some ⟨b0, 0, none⟩)), (8, .int .i64 x1)] [] hf29 (by kernel_rfl) trivial fun a31 hf32 => ?_
  refine listOf hf32 rfl (by kernel_rfl) (aCall (fid := 37) (args := [.pointer (some ⟨b0, 0, none⟩), .int .i64 x1]) (d := 9) hf32 (by kernel_rfl) (by kernel_rfl) callable37 (shelf_Shelf_there.calls _ _ _ x0 b0 A0_0 x0.l.length c0_0 rfl A0_1 x0.vers.length c0_1 rfl A0_2 x0.grads.length c0_2 rfl x1 (hm27.giveO [1, 2, 3, 4] [0] [] [.bx b0 [.slice A0_0 x0.l.length c0_0, .slice A0_1 x0.vers.length c0_1, .slice A0_2 x0.grads.length c0_2] 72, .ow kTensor 29 A0_0 c0_0 x0.l, .ow (Kd.int .i64) 3 A0_1 c0_1 x0.vers, .ow kTensor 29 A0_2 c0_2 x0.grads] _ [] rfl rfl rfl (by kernel_rfl) rfl) r30 hr30) ?_)
  rintro _ w33 a34 ⟨rfl, hk36⟩ hf35
  have hm37 := hm27.backO [1, 2, 3, 4] [0] _ _ rfl rfl (by kernel_rfl) hk36
  refine go 1 [] [0, 1, 4, 6] [(0, .pointer (some ⟨b0, 0, none⟩)), (1, .int .i64 x1), (4, .pointer (some ⟨b21, 0, none⟩)), (6, .int .i64 r30)] [] hf35 (by kernel_rfl) trivial fun a38 hf39 => ?_
  refine endL rfl ?_
  refine thenN ?_
  refine wp_seq ?_
  rcases if_split H0 with ⟨c40, H0⟩ | ⟨c40, H0⟩
  rotate_left
  · refine reg [.bool true] [0, 1, 4, 6, 11] [(0, .pointer (some ⟨b0, 0, none⟩)), (1, .int .i64 x1), (4, .pointer (some ⟨b21, 0, none⟩)), (6, .int .i64 r30), (11, .bool true)] [.is (((r30 : Int) != 0) = true)] hf39 (by kernel_rfl) ⟨(neT c40), trivial⟩ fun a76 hf77 => ?_
    refine thenN ?_
    refine condT hf77 (by kernel_rfl) ?_
    refine wp_seq ?_
    refine inReg ?_
    refine go 2 [] [4, 12, 13] [(4, .pointer (some ⟨b21, 0, none⟩)), (12, .agg #[.slice none 0 0, .slice none 0 0]), (13, .int .i64 r30)] [] hf77 (by kernel_rfl) trivial fun a78 hf79 => ?_
    refine listOf hf79 rfl (by kernel_rfl) (aStoreB (b := b21) (j := 0) (T := 29) (cs := [.slice none 0 0, .slice none 0 0]) (us := [.slice none 0 0, .slice none 0 0]) (cs' := [.slice none 0 0, .slice none 0 0]) hf79 (by kernel_rfl) (hm37.bxAt 4 rfl) (by kernel_rfl) (by kernel_rfl) (by kernel_rfl) ?_)
    intro w80 hx81 hg82
    have hm83 := hm37.setBox 4 _ rfl rfl hx81 hg82
    refine go 1 [] [4, 5] [(4, .pointer (some ⟨b21, 0, none⟩)), (5, .int .i64 r30)] [] hf79 (by kernel_rfl) trivial fun a84 hf85 => ?_
    refine endL rfl ?_
    refine thenN ?_
    refine wp_ret ?_
    refine thenR ?_
    have hm86 := hm83.nilOw (Kd.int .i64) 3
    have hm87 := hm86.nilOw Kd.float 26
    have hm88 : Mem B0 M w0 [.bx b0 [.slice A0_0 x0.l.length c0_0, .slice A0_1 x0.vers.length c0_1, .slice A0_2 x0.grads.length c0_2] 72, .ow kTensor 29 A0_0 c0_0 x0.l, .ow (Kd.int .i64) 3 A0_1 c0_1 x0.vers, .ow kTensor 29 A0_2 c0_2 x0.grads, .ow (Kd.int .i64) 3 none 0 ([] : (List Int)), .ow Kd.float 26 none 0 ([] : (List Nat))] w80 := hm87.sel [2, 3, 4, 5, 1, 0] _ rfl (by kernel_rfl)
    obtain rfl := Option.some.inj H0
    refine ret [.agg #[.slice none 0 0, .slice none 0 0]] [.agg #[.slice none 0 0, .slice none 0 0], .int .i64 r30] [.cell ⟨b21, 0, none⟩ (.slice none 0 0), .cell ⟨b21, 1, none⟩ (.slice none 0 0)] hf85 (by kernel_rfl) ⟨(hm83.cell 4 rfl rfl), (hm83.cell 4 rfl rfl), trivial⟩ ?_
    exact ⟨_, rfl, none, 0, none, 0, rfl, hm88⟩
  refine reg [.bool false] [0, 1, 4, 6, 11] [(0, .pointer (some ⟨b0, 0, none⟩)), (1, .int .i64 x1), (4, .pointer (some ⟨b21, 0, none⟩)), (6, .int .i64 r30), (11, .bool false)] [.is (((r30 : Int) != 0) = false)] hf39 (by kernel_rfl) ⟨(neF c40), trivial⟩ fun a41 hf42 => ?_
  refine thenN ?_
  refine condF hf42 (by kernel_rfl) ?_
  refine wp_skip ?_
  refine thenN ?_
  refine wp_seq ?_
  obtain ⟨g43, H0⟩ := if_guard H0
  obtain ⟨r44, hr44, H0⟩ := ob_split H0
  have q45 := (hm37.owAt 3 rfl).cells x1 g43.1 g43.2
  obtain ⟨us46, hr47, hc48⟩ := q45.2
  obtain ⟨A49, c50, A51, c52, rfl, ⟨pA49, sA49⟩, ⟨pA51, sA51⟩⟩ := kTensor.open hr47
  have hm53 := hm37.elem pA49 sA49
  have hm54 := hm53.elem pA51 sA51
  refine inReg ?_
  refine go 7 [.slice A0_2 x0.grads.length c0_2, .agg #[.slice A49 (((rd x0.grads x1).Shape).length) c50, .slice A51 (((rd x0.grads x1).Data).length) c52]] [4, 20] [(4, .pointer (some ⟨b21, 0, none⟩)), (20, .agg #[.slice A49 (((rd x0.grads x1).Shape).length) c50, .slice A51 (((rd x0.grads x1).Data).length) c52])] [.cell ⟨b0, 2, none⟩ (.slice A0_2 x0.grads.length c0_2), .is (Option.isSome A0_2 = true), .is (0 ≤ x1 ∧ x1 < (x0.grads.length : Int)), .cell ((ad A0_2).add ((x1).toNat * 2)) (.slice A49 (((rd x0.grads x1).Shape).length) c50), .cell (((ad A0_2).add ((x1).toNat * 2)).add 1) (.slice A51 (((rd x0.grads x1).Data).length) c52)] hf42 (by kernel_rfl) ⟨(hm37.cell 0 rfl rfl), q45.1, g43, (hc48 0 _ rfl), (hc48 1 _ rfl), trivial⟩ fun a55 hf56 => ?_
  refine listOf hf56 rfl (by kernel_rfl) (aCall (fid := 33) (args := [.agg #[.slice A49 (((rd x0.grads x1).Shape).length) c50, .slice A51 (((rd x0.grads x1).Data).length) c52]]) (d := 21) hf56 (by kernel_rfl) (by kernel_rfl) callable33 (tensor_Copy.calls _ _ (⟨((rd x0.grads x1).Shape), ((rd x0.grads x1).Data)⟩ : Tensor) A49 (((rd x0.grads x1).Shape).length) c50 rfl A51 (((rd x0.grads x1).Data).length) c52 rfl (hm54.give [1, 0] [.sl (Kd.int .i64) A49 c50 ((rd x0.grads x1).Shape), .sl Kd.float A51 c52 ((rd x0.grads x1).Data)] rfl rfl) r44 hr44) ?_)
  rintro _ w61 a62 ⟨A57, c58, A59, c60, rfl, hk65⟩ hf63
  have hm66 := hm54.back hk65
  refine listOf hf63 rfl (by kernel_rfl) (aStoreB (b := b21) (j := 0) (T := 29) (cs := [.slice none 0 0, .slice none 0 0]) (us := [.slice A57 r44.Shape.length c58, .slice A59 r44.Data.length c60]) (cs' := [.slice A57 r44.Shape.length c58, .slice A59 r44.Data.length c60]) hf63 (by kernel_rfl) (hm66.bxAt 8 rfl) (by kernel_rfl) (by kernel_rfl) (by kernel_rfl) ?_)
  intro w67 hx68 hg69
  have hm70 := hm66.setBox 8 _ rfl rfl hx68 hg69
  refine go 1 [] [4, 5] [(4, .pointer (some ⟨b21, 0, none⟩)), (5, .int .i64 0)] [] hf63 (by kernel_rfl) trivial fun a71 hf72 => ?_
  refine endL rfl ?_
  have hm73 := hm70.sel [0, 1, 4, 5, 6, 7, 8] _ rfl (by kernel_rfl)
  refine thenN ?_
  refine wp_ret ?_
  have hm74 : Mem B0 M w0 [.bx b0 [.slice A0_0 x0.l.length c0_0, .slice A0_1 x0.vers.length c0_1, .slice A0_2 x0.grads.length c0_2] 72, .ow kTensor 29 A0_0 c0_0 x0.l, .ow (Kd.int .i64) 3 A0_1 c0_1 x0.vers, .ow kTensor 29 A0_2 c0_2 x0.grads, .ow (Kd.int .i64) 3 A57 c58 r44.Shape, .ow Kd.float 26 A59 c60 r44.Data] w67 := hm73.sel [2, 3, 4, 5, 0, 1] _ rfl (by kernel_rfl)
  obtain rfl := Option.some.inj H0
  refine ret [.agg #[.slice A57 r44.Shape.length c58, .slice A59 r44.Data.length c60]] [.agg #[.slice A57 r44.Shape.length c58, .slice A59 r44.Data.length c60], .int .i64 0] [.cell ⟨b21, 0, none⟩ (.slice A57 r44.Shape.length c58), .cell ⟨b21, 1, none⟩ (.slice A59 r44.Data.length c60)] hf72 (by kernel_rfl) ⟨(hm73.cell 6 rfl rfl), (hm73.cell 6 rfl rfl), trivial⟩ ?_
  exact ⟨_, rfl, A57, c58, A59, c60, rfl, hm74⟩

/-! ### backstitch/backstitchlaw19.awake -/
noncomputable def law19_awake.f  : Option Bool :=
  (law19_awake_1.f 4619567317775286272).bind fun r25 =>
  (shelf_New.f ([r25] : List Tensor)).bind fun r26 =>
  onPtr r26.1 (fun y28 =>
  if r26.2 = 0 then ((law19_awake_1.f 4607182418800017408).bind fun r107 =>
  (shelf_Shelf_Commit.f y28 ([r107] : List Tensor)).bind fun r108 =>
  if r108.2 = 0 then ((law19_awake_1.f 4611686018427387904).bind fun r110 =>
  (shelf_Shelf_Commit.f (⟨y28.l, y28.vers, r108.1⟩ : Shelf) ([r110] : List Tensor)).bind fun r111 =>
  if r111.2 = 0 then ((shelf_Shelf_Grad.f (⟨y28.l, y28.vers, r111.1⟩ : Shelf) 0).bind fun r170 =>
  if r170.2 = 0 then (if (r170.1.Data.length : Int) = 1 then (if (0 : Int) ≤ 0 ∧ 0 < (r170.1.Data.length : Int) then (if (feq (rd r170.1.Data 0) 4613937818241073152) = true then (some true)
  else (some false))
  else none)
  else (some false))
  else (some false))
  else (some false))
  else (some false))
  else (some false)) (if r26.2 = 0 then (some false)
  else (some false))
set_option maxRecDepth 100000 in
set_option maxHeartbeats 4000000 in
theorem law19_awake.calls (M : List (Option Nat)) (w0 : World)  (hm0 : Mem [] M w0 [] w0) (r : Bool) (H0 : law19_awake.f = some r) :
    Calls Try.prog 9 [].toArray w0 (fun x w' => ∃ v, x = .returned v ∧ v = .bool r ∧ Mem [] M w0 [] w') := by
  unfold law19_awake.f at H0
  refine enter (n := 55) Try.func9 rfl rfl (by kernel_rfl) fun a0 (hf0 : Fr 55 a0 []) => ?_
  refine wp_seq ?_
  refine reg [] [] [] [] hf0 (by kernel_rfl) trivial fun a21 hf22 => ?_
  refine thenN ?_
  refine wp_seq ?_
  refine reg [] [1] [(1, .func (.func 29) #[] #[])] [] hf22 (by kernel_rfl) trivial fun a23 hf24 => ?_
  refine thenN ?_
  refine wp_seq ?_
  obtain ⟨r25, hr25, H0⟩ := ob_split H0
  obtain ⟨r26, hr26, H0⟩ := ob_split H0
  rcases ptr_split H0 with ⟨c27, H0⟩ | ⟨y28, c27, H0⟩
  · refine inReg ?_
    refine go 1 [] [1, 7] [(1, .func (.func 29) #[] #[]), (7, .func (.func 29) #[] #[])] [] hf24 (by kernel_rfl) trivial fun a29 hf30 => ?_
    refine listOf hf30 rfl (by kernel_rfl) (aCall (fid := 29) (args := [.float .f64 4619567317775286272]) (d := 8) hf30 (by kernel_rfl) (by kernel_rfl) callable29 (law19_awake_1.calls _ _ 4619567317775286272 4619567317775286272 ((FR.lit (by kernel_rfl) (by kernel_rfl))) (hm0.give [] [] rfl rfl) r25 hr25) ?_)
    rintro _ w35 a36 ⟨A31, c32, A33, c34, rfl, hk38⟩ hf37
    have hm39 := hm0.back hk38
    have hm40 := hm39.seal 0 _ rfl rfl
    have hm41 := hm40.seal 1 _ rfl rfl
    refine listOf hf37 rfl (by kernel_rfl) (aLit (cs := [.slice A31 r25.Shape.length c32, .slice A33 r25.Data.length c34]) (E := 29) (len := 1) (d := 9) hf37 (by kernel_rfl) (by kernel_rfl) ?_)
    intro b42 w43 a44 hbb42 hx46 hg47 hf45
    have hm41s := hm41.still hg47
    have hm48 := Mem.lit (kd := kTensor) (xs := ([r25] : List Tensor)) hm41 hbb42 hx46 hg47 (Els.one (kd := kTensor) (us := [.slice A31 r25.Shape.length c32, .slice A33 r25.Data.length c34]) (x := r25) (kTensor.mk r25 ⟨hm41s.cpAt 0 rfl, (hm41s.slAt 0 rfl)⟩ ⟨hm41s.cpAt 1 rfl, (hm41s.slAt 1 rfl)⟩))
    refine listOf hf45 rfl (by kernel_rfl) (aCall (fid := 10) (args := [.slice (some ⟨b42, 0, none⟩) 1 1]) (d := 10) hf45 (by kernel_rfl) (by kernel_rfl) callable10 (shelf_New.calls_n _ _ ([r25] : List Tensor) (some ⟨b42, 0, none⟩) 1 1 rfl (hm48.give [0] [.sl kTensor (some ⟨b42, 0, none⟩) 1 ([r25] : List Tensor)] rfl rfl) r26 c27 hr26) ?_)
    rintro _ w49 a50 ⟨rfl, hk52⟩ hf51
    have hm53 := hm48.still hk52.cum.none
    refine go 5 [] [1, 2, 3] [(1, .func (.func 29) #[] #[]), (2, .pointer none), (3, .int .i64 r26.2)] [] hf51 (by kernel_rfl) trivial fun a54 hf55 => ?_
    refine endL rfl ?_
    have hm56 := hm53.sel [] _ rfl (by kernel_rfl)
    refine thenN ?_
    refine wp_seq ?_
    refine wp_seq ?_
    rcases if_split H0 with ⟨c57, H0⟩ | ⟨c57, H0⟩
    · refine reg [.bool false] [2, 34] [(2, .pointer none), (34, .bool true)] [.is (((r26.2 : Int) != 0) = false)] hf55 (by kernel_rfl) ⟨(neF c57), trivial⟩ fun a58 hf59 => ?_
      refine thenN ?_
      refine condT hf59 (by kernel_rfl) ?_
      refine wp_seq ?_
      refine reg [] [0] [(0, .bool false)] [] hf59 (by kernel_rfl) trivial fun a60 hf61 => ?_
      refine thenN ?_
      refine wp_ret ?_
      refine thenR ?_
      have hm62 : Mem [] M w0 [] w49 := hm56.sel [] _ rfl (by kernel_rfl)
      obtain rfl := Option.some.inj H0
      refine ret [] [.bool false] [] hf61 (by kernel_rfl) trivial ?_
      exact ⟨_, rfl, rfl, hm62⟩
    refine reg [.bool true] [2, 34] [(2, .pointer none), (34, .bool true)] [.is (((r26.2 : Int) != 0) = true)] hf55 (by kernel_rfl) ⟨(neT c57), trivial⟩ fun a65 hf66 => ?_
    refine thenN ?_
    refine condT hf66 (by kernel_rfl) ?_
    refine wp_seq ?_
    refine reg [] [0] [(0, .bool false)] [] hf66 (by kernel_rfl) trivial fun a67 hf68 => ?_
    refine thenN ?_
    refine wp_ret ?_
    refine thenR ?_
    have hm69 : Mem [] M w0 [] w49 := hm56.sel [] _ rfl (by kernel_rfl)
    obtain rfl := Option.some.inj H0
    refine ret [] [.bool false] [] hf68 (by kernel_rfl) trivial ?_
    exact ⟨_, rfl, rfl, hm69⟩
  · refine inReg ?_
    refine go 1 [] [1, 7] [(1, .func (.func 29) #[] #[]), (7, .func (.func 29) #[] #[])] [] hf24 (by kernel_rfl) trivial fun a71 hf72 => ?_
    refine listOf hf72 rfl (by kernel_rfl) (aCall (fid := 29) (args := [.float .f64 4619567317775286272]) (d := 8) hf72 (by kernel_rfl) (by kernel_rfl) callable29 (law19_awake_1.calls _ _ 4619567317775286272 4619567317775286272 ((FR.lit (by kernel_rfl) (by kernel_rfl))) (hm0.give [] [] rfl rfl) r25 hr25) ?_)
    rintro _ w77 a78 ⟨A73, c74, A75, c76, rfl, hk80⟩ hf79
    have hm81 := hm0.back hk80
    have hm82 := hm81.seal 0 _ rfl rfl
    have hm83 := hm82.seal 1 _ rfl rfl
    refine listOf hf79 rfl (by kernel_rfl) (aLit (cs := [.slice A73 r25.Shape.length c74, .slice A75 r25.Data.length c76]) (E := 29) (len := 1) (d := 9) hf79 (by kernel_rfl) (by kernel_rfl) ?_)
    intro b84 w85 a86 hbb84 hx88 hg89 hf87
    have hm83s := hm83.still hg89
    have hm90 := Mem.lit (kd := kTensor) (xs := ([r25] : List Tensor)) hm83 hbb84 hx88 hg89 (Els.one (kd := kTensor) (us := [.slice A73 r25.Shape.length c74, .slice A75 r25.Data.length c76]) (x := r25) (kTensor.mk r25 ⟨hm83s.cpAt 0 rfl, (hm83s.slAt 0 rfl)⟩ ⟨hm83s.cpAt 1 rfl, (hm83s.slAt 1 rfl)⟩))
    refine listOf hf87 rfl (by kernel_rfl) (aCall (fid := 10) (args := [.slice (some ⟨b84, 0, none⟩) 1 1]) (d := 10) hf87 (by kernel_rfl) (by kernel_rfl) callable10 (shelf_New.calls_s _ _ ([r25] : List Tensor) (some ⟨b84, 0, none⟩) 1 1 rfl (hm90.give [0] [.sl kTensor (some ⟨b84, 0, none⟩) 1 ([r25] : List Tensor)] rfl rfl) r26 y28 c27 hr26) ?_)
    rintro _ w98 a99 ⟨b91, A92, c93, A94, c95, A96, c97, rfl, hk101⟩ hf100
    have hm102 := hm90.back hk101
    refine go 5 [] [1, 2, 3] [(1, .func (.func 29) #[] #[]), (2, .pointer (some ⟨b91, 0, none⟩)), (3, .int .i64 r26.2)] [] hf100 (by kernel_rfl) trivial fun a103 hf104 => ?_
    refine endL rfl ?_
    have hm105 := hm102.sel [0, 1, 2, 3] _ rfl (by kernel_rfl)
    refine thenN ?_
    refine wp_seq ?_
    refine wp_seq ?_
    rcases if_split H0 with ⟨c106, H0⟩ | ⟨c106, H0⟩
    rotate_left
    · refine reg [.bool true] [2, 34] [(2, .pointer (some ⟨b91, 0, none⟩)), (34, .bool true)] [.is (((r26.2 : Int) != 0) = true)] hf104 (by kernel_rfl) ⟨(neT c106), trivial⟩ fun a325 hf326 => ?_
      refine thenN ?_
      refine condT hf326 (by kernel_rfl) ?_
      refine wp_seq ?_
      refine reg [] [0] [(0, .bool false)] [] hf326 (by kernel_rfl) trivial fun a327 hf328 => ?_
      have hm329 := hm105.sel [] _ rfl (by kernel_rfl)
      refine thenN ?_
      refine wp_ret ?_
      refine thenR ?_
      have hm330 : Mem [] M w0 [] w98 := hm329.sel [] _ rfl (by kernel_rfl)
      obtain rfl := Option.some.inj H0
      refine ret [] [.bool false] [] hf328 (by kernel_rfl) trivial ?_
      exact ⟨_, rfl, rfl, hm330⟩
    obtain ⟨r107, hr107, H0⟩ := ob_split H0
    obtain ⟨r108, hr108, H0⟩ := ob_split H0
    rcases if_split H0 with ⟨c109, H0⟩ | ⟨c109, H0⟩
    rotate_left
    · refine inReg ?_
      refine go 9 [.bool false] [1, 2, 19, 20, 21] [(1, .func (.func 29) #[] #[]), (2, .pointer (some ⟨b91, 0, none⟩)), (19, .bool false), (20, .pointer (some ⟨b91, 0, none⟩)), (21, .func (.func 29) #[] #[])] [.is (((r26.2 : Int) != 0) = false)] hf104 (by kernel_rfl) ⟨(neF c106), trivial⟩ fun a290 hf291 => ?_
      refine listOf hf291 rfl (by kernel_rfl) (aCall (fid := 29) (args := [.float .f64 4607182418800017408]) (d := 22) hf291 (by kernel_rfl) (by kernel_rfl) callable29 (law19_awake_1.calls _ _ 4607182418800017408 4607182418800017408 ((FR.lit (by kernel_rfl) (by kernel_rfl))) (hm105.give [] [] rfl rfl) r107 hr107) ?_)
      rintro _ w296 a297 ⟨A292, c293, A294, c295, rfl, hk299⟩ hf298
      have hm300 := hm105.back hk299
      have hm301 := hm300.seal 0 _ rfl rfl
      have hm302 := hm301.seal 1 _ rfl rfl
      refine listOf hf298 rfl (by kernel_rfl) (aLit (cs := [.slice A292 r107.Shape.length c293, .slice A294 r107.Data.length c295]) (E := 29) (len := 1) (d := 23) hf298 (by kernel_rfl) (by kernel_rfl) ?_)
      intro b303 w304 a305 hbb303 hx307 hg308 hf306
      have hm302s := hm302.still hg308
      have hm309 := Mem.lit (kd := kTensor) (xs := ([r107] : List Tensor)) hm302 hbb303 hx307 hg308 (Els.one (kd := kTensor) (us := [.slice A292 r107.Shape.length c293, .slice A294 r107.Data.length c295]) (x := r107) (kTensor.mk r107 ⟨hm302s.cpAt 0 rfl, (hm302s.slAt 0 rfl)⟩ ⟨hm302s.cpAt 1 rfl, (hm302s.slAt 1 rfl)⟩))
      refine listOf hf306 rfl (by kernel_rfl) (aCall (fid := 11) (args := [.pointer (some ⟨b91, 0, none⟩), .slice (some ⟨b303, 0, none⟩) 1 1]) (d := 24) hf306 (by kernel_rfl) (by kernel_rfl) callable11 (shelf_Shelf_Commit.calls _ _ _ y28 b91 A92 y28.l.length c93 rfl A94 y28.vers.length c95 rfl A96 y28.grads.length c97 rfl ([r107] : List Tensor) (some ⟨b303, 0, none⟩) 1 1 rfl (hm309.giveO [3, 4, 5, 6] [0, 1, 2] [0] [.bx b91 [.slice A92 y28.l.length c93, .slice A94 y28.vers.length c95, .slice A96 y28.grads.length c97] 72, .ow kTensor 29 A92 c93 y28.l, .ow (Kd.int .i64) 3 A94 c95 y28.vers, .ow kTensor 29 A96 c97 y28.grads] _ [.sl kTensor (some ⟨b303, 0, none⟩) 1 ([r107] : List Tensor)] rfl rfl rfl (by kernel_rfl) rfl) r108 hr108) ?_)
      rintro _ w312 a313 ⟨A310, c311, rfl, hk315⟩ hf314
      have hm316 := hm309.backO [3, 4, 5, 6] [0, 1, 2] _ _ rfl rfl (by kernel_rfl) hk315
      refine go 10 [.bool true] [2, 34] [(2, .pointer (some ⟨b91, 0, none⟩)), (34, .bool true)] [.is (((r108.2 : Int) != 0) = true)] hf314 (by kernel_rfl) ⟨(neT c109), trivial⟩ fun a317 hf318 => ?_
      refine endL rfl ?_
      have hm319 := hm316.sel [0, 1, 2, 3] _ rfl (by kernel_rfl)
      refine thenN ?_
      refine condT hf318 (by kernel_rfl) ?_
      refine wp_seq ?_
      refine reg [] [0] [(0, .bool false)] [] hf318 (by kernel_rfl) trivial fun a320 hf321 => ?_
      have hm322 := hm319.sel [] _ rfl (by kernel_rfl)
      refine thenN ?_
      refine wp_ret ?_
      refine thenR ?_
      have hm323 : Mem [] M w0 [] w312 := hm322.sel [] _ rfl (by kernel_rfl)
      obtain rfl := Option.some.inj H0
      refine ret [] [.bool false] [] hf321 (by kernel_rfl) trivial ?_
      exact ⟨_, rfl, rfl, hm323⟩
    obtain ⟨r110, hr110, H0⟩ := ob_split H0
    obtain ⟨r111, hr111, H0⟩ := ob_split H0
    rcases if_split H0 with ⟨c112, H0⟩ | ⟨c112, H0⟩
    rotate_left
    · refine inReg ?_
      refine go 9 [.bool false] [1, 2, 19, 20, 21] [(1, .func (.func 29) #[] #[]), (2, .pointer (some ⟨b91, 0, none⟩)), (19, .bool false), (20, .pointer (some ⟨b91, 0, none⟩)), (21, .func (.func 29) #[] #[])] [.is (((r26.2 : Int) != 0) = false)] hf104 (by kernel_rfl) ⟨(neF c106), trivial⟩ fun a228 hf229 => ?_
      refine listOf hf229 rfl (by kernel_rfl) (aCall (fid := 29) (args := [.float .f64 4607182418800017408]) (d := 22) hf229 (by kernel_rfl) (by kernel_rfl) callable29 (law19_awake_1.calls _ _ 4607182418800017408 4607182418800017408 ((FR.lit (by kernel_rfl) (by kernel_rfl))) (hm105.give [] [] rfl rfl) r107 hr107) ?_)
      rintro _ w234 a235 ⟨A230, c231, A232, c233, rfl, hk237⟩ hf236
      have hm238 := hm105.back hk237
      have hm239 := hm238.seal 0 _ rfl rfl
      have hm240 := hm239.seal 1 _ rfl rfl
      refine listOf hf236 rfl (by kernel_rfl) (aLit (cs := [.slice A230 r107.Shape.length c231, .slice A232 r107.Data.length c233]) (E := 29) (len := 1) (d := 23) hf236 (by kernel_rfl) (by kernel_rfl) ?_)
      intro b241 w242 a243 hbb241 hx245 hg246 hf244
      have hm240s := hm240.still hg246
      have hm247 := Mem.lit (kd := kTensor) (xs := ([r107] : List Tensor)) hm240 hbb241 hx245 hg246 (Els.one (kd := kTensor) (us := [.slice A230 r107.Shape.length c231, .slice A232 r107.Data.length c233]) (x := r107) (kTensor.mk r107 ⟨hm240s.cpAt 0 rfl, (hm240s.slAt 0 rfl)⟩ ⟨hm240s.cpAt 1 rfl, (hm240s.slAt 1 rfl)⟩))
      refine listOf hf244 rfl (by kernel_rfl) (aCall (fid := 11) (args := [.pointer (some ⟨b91, 0, none⟩), .slice (some ⟨b241, 0, none⟩) 1 1]) (d := 24) hf244 (by kernel_rfl) (by kernel_rfl) callable11 (shelf_Shelf_Commit.calls _ _ _ y28 b91 A92 y28.l.length c93 rfl A94 y28.vers.length c95 rfl A96 y28.grads.length c97 rfl ([r107] : List Tensor) (some ⟨b241, 0, none⟩) 1 1 rfl (hm247.giveO [3, 4, 5, 6] [0, 1, 2] [0] [.bx b91 [.slice A92 y28.l.length c93, .slice A94 y28.vers.length c95, .slice A96 y28.grads.length c97] 72, .ow kTensor 29 A92 c93 y28.l, .ow (Kd.int .i64) 3 A94 c95 y28.vers, .ow kTensor 29 A96 c97 y28.grads] _ [.sl kTensor (some ⟨b241, 0, none⟩) 1 ([r107] : List Tensor)] rfl rfl rfl (by kernel_rfl) rfl) r108 hr108) ?_)
      rintro _ w250 a251 ⟨A248, c249, rfl, hk253⟩ hf252
      have hm254 := hm247.backO [3, 4, 5, 6] [0, 1, 2] _ _ rfl rfl (by kernel_rfl) hk253
      refine go 5 [.bool false] [2, 27, 28, 29] [(2, .pointer (some ⟨b91, 0, none⟩)), (27, .bool false), (28, .pointer (some ⟨b91, 0, none⟩)), (29, .func (.func 29) #[] #[])] [.is (((r108.2 : Int) != 0) = false)] hf252 (by kernel_rfl) ⟨(neF c109), trivial⟩ fun a255 hf256 => ?_
      refine listOf hf256 rfl (by kernel_rfl) (aCall (fid := 29) (args := [.float .f64 4611686018427387904]) (d := 30) hf256 (by kernel_rfl) (by kernel_rfl) callable29 (law19_awake_1.calls _ _ 4611686018427387904 4611686018427387904 ((FR.lit (by kernel_rfl) (by kernel_rfl))) (hm254.give [] [] rfl rfl) r110 hr110) ?_)
      rintro _ w261 a262 ⟨A257, c258, A259, c260, rfl, hk264⟩ hf263
      have hm265 := hm254.back hk264
      have hm266 := hm265.seal 0 _ rfl rfl
      have hm267 := hm266.seal 1 _ rfl rfl
      refine listOf hf263 rfl (by kernel_rfl) (aLit (cs := [.slice A257 r110.Shape.length c258, .slice A259 r110.Data.length c260]) (E := 29) (len := 1) (d := 31) hf263 (by kernel_rfl) (by kernel_rfl) ?_)
      intro b268 w269 a270 hbb268 hx272 hg273 hf271
      have hm267s := hm267.still hg273
      have hm274 := Mem.lit (kd := kTensor) (xs := ([r110] : List Tensor)) hm267 hbb268 hx272 hg273 (Els.one (kd := kTensor) (us := [.slice A257 r110.Shape.length c258, .slice A259 r110.Data.length c260]) (x := r110) (kTensor.mk r110 ⟨hm267s.cpAt 0 rfl, (hm267s.slAt 0 rfl)⟩ ⟨hm267s.cpAt 1 rfl, (hm267s.slAt 1 rfl)⟩))
      refine listOf hf271 rfl (by kernel_rfl) (aCall (fid := 11) (args := [.pointer (some ⟨b91, 0, none⟩), .slice (some ⟨b268, 0, none⟩) 1 1]) (d := 32) hf271 (by kernel_rfl) (by kernel_rfl) callable11 (shelf_Shelf_Commit.calls _ _ _ (⟨y28.l, y28.vers, r108.1⟩ : Shelf) b91 A92 y28.l.length c93 rfl A94 y28.vers.length c95 rfl A248 r108.1.length c249 rfl ([r110] : List Tensor) (some ⟨b268, 0, none⟩) 1 1 rfl (hm274.giveO [3, 4, 5, 6] [0, 1, 2, 7, 8, 9] [0] [.bx b91 [.slice A92 y28.l.length c93, .slice A94 y28.vers.length c95, .slice A248 r108.1.length c249] 72, .ow kTensor 29 A92 c93 y28.l, .ow (Kd.int .i64) 3 A94 c95 y28.vers, .ow kTensor 29 A248 c249 r108.1] _ [.sl kTensor (some ⟨b268, 0, none⟩) 1 ([r110] : List Tensor)] rfl rfl rfl (by kernel_rfl) rfl) r111 hr111) ?_)
      rintro _ w277 a278 ⟨A275, c276, rfl, hk280⟩ hf279
      have hm281 := hm274.backO [3, 4, 5, 6] [0, 1, 2, 7, 8, 9] _ _ rfl rfl (by kernel_rfl) hk280
      refine go 2 [.bool true] [2, 34] [(2, .pointer (some ⟨b91, 0, none⟩)), (34, .bool true)] [.is (((r111.2 : Int) != 0) = true)] hf279 (by kernel_rfl) ⟨(neT c112), trivial⟩ fun a282 hf283 => ?_
      refine endL rfl ?_
      have hm284 := hm281.sel [0, 1, 2, 3] _ rfl (by kernel_rfl)
      refine thenN ?_
      refine condT hf283 (by kernel_rfl) ?_
      refine wp_seq ?_
      refine reg [] [0] [(0, .bool false)] [] hf283 (by kernel_rfl) trivial fun a285 hf286 => ?_
      have hm287 := hm284.sel [] _ rfl (by kernel_rfl)
      refine thenN ?_
      refine wp_ret ?_
      refine thenR ?_
      have hm288 : Mem [] M w0 [] w277 := hm287.sel [] _ rfl (by kernel_rfl)
      obtain rfl := Option.some.inj H0
      refine ret [] [.bool false] [] hf286 (by kernel_rfl) trivial ?_
      exact ⟨_, rfl, rfl, hm288⟩
    refine inReg ?_
    refine go 9 [.bool false] [1, 2, 19, 20, 21] [(1, .func (.func 29) #[] #[]), (2, .pointer (some ⟨b91, 0, none⟩)), (19, .bool false), (20, .pointer (some ⟨b91, 0, none⟩)), (21, .func (.func 29) #[] #[])] [.is (((r26.2 : Int) != 0) = false)] hf104 (by kernel_rfl) ⟨(neF c106), trivial⟩ fun a113 hf114 => ?_
    refine listOf hf114 rfl (by kernel_rfl) (aCall (fid := 29) (args := [.float .f64 4607182418800017408]) (d := 22) hf114 (by kernel_rfl) (by kernel_rfl) callable29 (law19_awake_1.calls _ _ 4607182418800017408 4607182418800017408 ((FR.lit (by kernel_rfl) (by kernel_rfl))) (hm105.give [] [] rfl rfl) r107 hr107) ?_)
    rintro _ w119 a120 ⟨A115, c116, A117, c118, rfl, hk122⟩ hf121
    have hm123 := hm105.back hk122
    have hm124 := hm123.seal 0 _ rfl rfl
    have hm125 := hm124.seal 1 _ rfl rfl
    refine listOf hf121 rfl (by kernel_rfl) (aLit (cs := [.slice A115 r107.Shape.length c116, .slice A117 r107.Data.length c118]) (E := 29) (len := 1) (d := 23) hf121 (by kernel_rfl) (by kernel_rfl) ?_)
    intro b126 w127 a128 hbb126 hx130 hg131 hf129
    have hm125s := hm125.still hg131
    have hm132 := Mem.lit (kd := kTensor) (xs := ([r107] : List Tensor)) hm125 hbb126 hx130 hg131 (Els.one (kd := kTensor) (us := [.slice A115 r107.Shape.length c116, .slice A117 r107.Data.length c118]) (x := r107) (kTensor.mk r107 ⟨hm125s.cpAt 0 rfl, (hm125s.slAt 0 rfl)⟩ ⟨hm125s.cpAt 1 rfl, (hm125s.slAt 1 rfl)⟩))
    refine listOf hf129 rfl (by kernel_rfl) (aCall (fid := 11) (args := [.pointer (some ⟨b91, 0, none⟩), .slice (some ⟨b126, 0, none⟩) 1 1]) (d := 24) hf129 (by kernel_rfl) (by kernel_rfl) callable11 (shelf_Shelf_Commit.calls _ _ _ y28 b91 A92 y28.l.length c93 rfl A94 y28.vers.length c95 rfl A96 y28.grads.length c97 rfl ([r107] : List Tensor) (some ⟨b126, 0, none⟩) 1 1 rfl (hm132.giveO [3, 4, 5, 6] [0, 1, 2] [0] [.bx b91 [.slice A92 y28.l.length c93, .slice A94 y28.vers.length c95, .slice A96 y28.grads.length c97] 72, .ow kTensor 29 A92 c93 y28.l, .ow (Kd.int .i64) 3 A94 c95 y28.vers, .ow kTensor 29 A96 c97 y28.grads] _ [.sl kTensor (some ⟨b126, 0, none⟩) 1 ([r107] : List Tensor)] rfl rfl rfl (by kernel_rfl) rfl) r108 hr108) ?_)
    rintro _ w135 a136 ⟨A133, c134, rfl, hk138⟩ hf137
    have hm139 := hm132.backO [3, 4, 5, 6] [0, 1, 2] _ _ rfl rfl (by kernel_rfl) hk138
    refine go 5 [.bool false] [2, 27, 28, 29] [(2, .pointer (some ⟨b91, 0, none⟩)), (27, .bool false), (28, .pointer (some ⟨b91, 0, none⟩)), (29, .func (.func 29) #[] #[])] [.is (((r108.2 : Int) != 0) = false)] hf137 (by kernel_rfl) ⟨(neF c109), trivial⟩ fun a140 hf141 => ?_
    refine listOf hf141 rfl (by kernel_rfl) (aCall (fid := 29) (args := [.float .f64 4611686018427387904]) (d := 30) hf141 (by kernel_rfl) (by kernel_rfl) callable29 (law19_awake_1.calls _ _ 4611686018427387904 4611686018427387904 ((FR.lit (by kernel_rfl) (by kernel_rfl))) (hm139.give [] [] rfl rfl) r110 hr110) ?_)
    rintro _ w146 a147 ⟨A142, c143, A144, c145, rfl, hk149⟩ hf148
    have hm150 := hm139.back hk149
    have hm151 := hm150.seal 0 _ rfl rfl
    have hm152 := hm151.seal 1 _ rfl rfl
    refine listOf hf148 rfl (by kernel_rfl) (aLit (cs := [.slice A142 r110.Shape.length c143, .slice A144 r110.Data.length c145]) (E := 29) (len := 1) (d := 31) hf148 (by kernel_rfl) (by kernel_rfl) ?_)
    intro b153 w154 a155 hbb153 hx157 hg158 hf156
    have hm152s := hm152.still hg158
    have hm159 := Mem.lit (kd := kTensor) (xs := ([r110] : List Tensor)) hm152 hbb153 hx157 hg158 (Els.one (kd := kTensor) (us := [.slice A142 r110.Shape.length c143, .slice A144 r110.Data.length c145]) (x := r110) (kTensor.mk r110 ⟨hm152s.cpAt 0 rfl, (hm152s.slAt 0 rfl)⟩ ⟨hm152s.cpAt 1 rfl, (hm152s.slAt 1 rfl)⟩))
    refine listOf hf156 rfl (by kernel_rfl) (aCall (fid := 11) (args := [.pointer (some ⟨b91, 0, none⟩), .slice (some ⟨b153, 0, none⟩) 1 1]) (d := 32) hf156 (by kernel_rfl) (by kernel_rfl) callable11 (shelf_Shelf_Commit.calls _ _ _ (⟨y28.l, y28.vers, r108.1⟩ : Shelf) b91 A92 y28.l.length c93 rfl A94 y28.vers.length c95 rfl A133 r108.1.length c134 rfl ([r110] : List Tensor) (some ⟨b153, 0, none⟩) 1 1 rfl (hm159.giveO [3, 4, 5, 6] [0, 1, 2, 7, 8, 9] [0] [.bx b91 [.slice A92 y28.l.length c93, .slice A94 y28.vers.length c95, .slice A133 r108.1.length c134] 72, .ow kTensor 29 A92 c93 y28.l, .ow (Kd.int .i64) 3 A94 c95 y28.vers, .ow kTensor 29 A133 c134 r108.1] _ [.sl kTensor (some ⟨b153, 0, none⟩) 1 ([r110] : List Tensor)] rfl rfl rfl (by kernel_rfl) rfl) r111 hr111) ?_)
    rintro _ w162 a163 ⟨A160, c161, rfl, hk165⟩ hf164
    have hm166 := hm159.backO [3, 4, 5, 6] [0, 1, 2, 7, 8, 9] _ _ rfl rfl (by kernel_rfl) hk165
    refine go 2 [.bool false] [2, 34] [(2, .pointer (some ⟨b91, 0, none⟩)), (34, .bool false)] [.is (((r111.2 : Int) != 0) = false)] hf164 (by kernel_rfl) ⟨(neF c112), trivial⟩ fun a167 hf168 => ?_
    refine endL rfl ?_
    have hm169 := hm166.sel [0, 1, 2, 3] _ rfl (by kernel_rfl)
    refine thenN ?_
    refine condF hf168 (by kernel_rfl) ?_
    refine wp_skip ?_
    refine thenN ?_
    refine wp_seq ?_
    obtain ⟨r170, hr170, H0⟩ := ob_split H0
    refine inReg ?_
    refine go 1 [] [36] [(36, .pointer (some ⟨b91, 0, none⟩))] [] hf168 (by kernel_rfl) trivial fun a171 hf172 => ?_
    refine listOf hf172 rfl (by kernel_rfl) (aCall (fid := 13) (args := [.pointer (some ⟨b91, 0, none⟩), .int .i64 0]) (d := 37) hf172 (by kernel_rfl) (by kernel_rfl) callable13 (shelf_Shelf_Grad.calls _ _ _ (⟨y28.l, y28.vers, r111.1⟩ : Shelf) b91 A92 y28.l.length c93 rfl A94 y28.vers.length c95 rfl A160 r111.1.length c161 rfl 0 (hm169.giveO [0, 1, 2, 3] [] [] [.bx b91 [.slice A92 y28.l.length c93, .slice A94 y28.vers.length c95, .slice A160 r111.1.length c161] 72, .ow kTensor 29 A92 c93 y28.l, .ow (Kd.int .i64) 3 A94 c95 y28.vers, .ow kTensor 29 A160 c161 r111.1] _ [] rfl rfl rfl (by kernel_rfl) rfl) r170 hr170) ?_)
    rintro _ w177 a178 ⟨A173, c174, A175, c176, rfl, hk180⟩ hf179
    have hm181 := hm169.backO [0, 1, 2, 3] [] _ _ rfl rfl (by kernel_rfl) hk180
    have hm182 := hm181.seal 4 _ rfl rfl
    have hm183 := hm182.seal 5 _ rfl rfl
    refine go 3 [] [38, 39] [(38, .agg #[.slice A173 r170.1.Shape.length c174, .slice A175 r170.1.Data.length c176]), (39, .int .i64 r170.2)] [] hf179 (by kernel_rfl) trivial fun a184 hf185 => ?_
    refine listOf hf185 rfl (by kernel_rfl) (aNew (cs := [.slice none 0 0, .slice none 0 0]) (T := 29) (d := 4) hf185 (by kernel_rfl) (by kernel_rfl) ?_)
    intro b186 w187 a188 hbb186 hx190 hg191 hf189
    have hm192 := hm183.box hbb186 hx190 hg191
    refine listOf hf189 rfl (by kernel_rfl) (aStoreB (b := b186) (j := 0) (T := 29) (cs := [.slice none 0 0, .slice none 0 0]) (us := [.slice A173 r170.1.Shape.length c174, .slice A175 r170.1.Data.length c176]) (cs' := [.slice A173 r170.1.Shape.length c174, .slice A175 r170.1.Data.length c176]) hf189 (by kernel_rfl) (hm192.bxAt 0 rfl) (by kernel_rfl) (by kernel_rfl) (by kernel_rfl) ?_)
    intro w193 hx194 hg195
    have hm196 := hm192.setBox 0 _ rfl rfl hx194 hg195
    refine go 1 [] [4, 5] [(4, .pointer (some ⟨b186, 0, none⟩)), (5, .int .i64 r170.2)] [] hf189 (by kernel_rfl) trivial fun a197 hf198 => ?_
    refine endL rfl ?_
    have hm199 := hm196.sel [0, 5, 6] _ rfl (by kernel_rfl)
    refine thenN ?_
    refine wp_seq ?_
    rcases if_split H0 with ⟨c200, H0⟩ | ⟨c200, H0⟩
    rotate_left
    · refine reg [.bool false] [0] [(0, .bool false)] [.is (((r170.2 : Int) == 0) = false)] hf198 (by kernel_rfl) ⟨(eqF c200), trivial⟩ fun a223 hf224 => ?_
      have hm225 := hm199.sel [] _ rfl (by kernel_rfl)
      refine thenN ?_
      refine wp_ret ?_
      have hm226 : Mem [] M w0 [] w193 := hm225.sel [] _ rfl (by kernel_rfl)
      obtain rfl := Option.some.inj H0
      refine ret [] [.bool false] [] hf224 (by kernel_rfl) trivial ?_
      exact ⟨_, rfl, rfl, hm226⟩
    rcases if_split H0 with ⟨c201, H0⟩ | ⟨c201, H0⟩
    rotate_left
    · refine reg [.bool true, .slice A175 r170.1.Data.length c176, .bool false] [0] [(0, .bool false)] [.is (((r170.2 : Int) == 0) = true), .cell ⟨b186, 1, none⟩ (.slice A175 r170.1.Data.length c176), .is ((((r170.1.Data.length : Int) : Int) == 1) = false)] hf198 (by kernel_rfl) ⟨(eqT c200), (hm199.cell 0 rfl rfl), (eqF c201), trivial⟩ fun a218 hf219 => ?_
      have hm220 := hm199.sel [] _ rfl (by kernel_rfl)
      refine thenN ?_
      refine wp_ret ?_
      have hm221 : Mem [] M w0 [] w193 := hm220.sel [] _ rfl (by kernel_rfl)
      obtain rfl := Option.some.inj H0
      refine ret [] [.bool false] [] hf219 (by kernel_rfl) trivial ?_
      exact ⟨_, rfl, rfl, hm221⟩
    obtain ⟨g202, H0⟩ := if_guard H0
    rcases ifb_split H0 with ⟨c203, H0⟩ | ⟨c203, H0⟩
    · have q204 := (hm199.slAt 2 rfl).float 0 g202.1 g202.2
      obtain ⟨b205, hb205, kb205⟩ := q204.2
      refine reg [.bool true, .slice A175 r170.1.Data.length c176, .bool true, .slice A175 r170.1.Data.length c176, .float .f64 b205, .bool true] [0] [(0, .bool true)] [.is (((r170.2 : Int) == 0) = true), .cell ⟨b186, 1, none⟩ (.slice A175 r170.1.Data.length c176), .is ((((r170.1.Data.length : Int) : Int) == 1) = true), .cell ⟨b186, 1, none⟩ (.slice A175 r170.1.Data.length c176), .is (Option.isSome A175 = true), .is ((0 : Int) ≤ 0 ∧ 0 < (r170.1.Data.length : Int)), .cell ((ad A175).add ((0 : Int).toNat * 1)) (.float .f64 b205), .is ((FloatKind.f64.format.order b205 4613937818241073152 == some .eq) = true)] hf198 (by kernel_rfl) ⟨(eqT c200), (hm199.cell 0 rfl rfl), (eqT c201), (hm199.cell 0 rfl rfl), q204.1, g202, kb205, (ftEq hb205 (FR.lit (by kernel_rfl) (by kernel_rfl)) c203), trivial⟩ fun a206 hf207 => ?_
      have hm208 := hm199.sel [] _ rfl (by kernel_rfl)
      refine thenN ?_
      refine wp_ret ?_
      have hm209 : Mem [] M w0 [] w193 := hm208.sel [] _ rfl (by kernel_rfl)
      obtain rfl := Option.some.inj H0
      refine ret [] [.bool true] [] hf207 (by kernel_rfl) trivial ?_
      exact ⟨_, rfl, rfl, hm209⟩
    have q211 := (hm199.slAt 2 rfl).float 0 g202.1 g202.2
    obtain ⟨b212, hb212, kb212⟩ := q211.2
    refine reg [.bool true, .slice A175 r170.1.Data.length c176, .bool true, .slice A175 r170.1.Data.length c176, .float .f64 b212, .bool false] [0] [(0, .bool false)] [.is (((r170.2 : Int) == 0) = true), .cell ⟨b186, 1, none⟩ (.slice A175 r170.1.Data.length c176), .is ((((r170.1.Data.length : Int) : Int) == 1) = true), .cell ⟨b186, 1, none⟩ (.slice A175 r170.1.Data.length c176), .is (Option.isSome A175 = true), .is ((0 : Int) ≤ 0 ∧ 0 < (r170.1.Data.length : Int)), .cell ((ad A175).add ((0 : Int).toNat * 1)) (.float .f64 b212), .is ((FloatKind.f64.format.order b212 4613937818241073152 == some .eq) = false)] hf198 (by kernel_rfl) ⟨(eqT c200), (hm199.cell 0 rfl rfl), (eqT c201), (hm199.cell 0 rfl rfl), q211.1, g202, kb212, (ftEq hb212 (FR.lit (by kernel_rfl) (by kernel_rfl)) c203), trivial⟩ fun a213 hf214 => ?_
    have hm215 := hm199.sel [] _ rfl (by kernel_rfl)
    refine thenN ?_
    refine wp_ret ?_
    have hm216 : Mem [] M w0 [] w193 := hm215.sel [] _ rfl (by kernel_rfl)
    obtain rfl := Option.some.inj H0
    refine ret [] [.bool false] [] hf214 (by kernel_rfl) trivial ?_
    exact ⟨_, rfl, rfl, hm216⟩

/-! ### backstitch/backstitchlaw3.Small -/
noncomputable def law3_Small.f (x0 : Tensor) : Option Bool :=
  if (x0.Shape.length : Int) ≤ 40 then (if (x0.Data.length : Int) ≤ 8192 then (some true)
  else (some false))
  else (some false)
set_option maxRecDepth 100000 in
set_option maxHeartbeats 4000000 in
theorem law3_Small.calls (M : List (Option Nat)) (w0 : World) (x0 : Tensor) (A0_0 : Option Addr) (n0_0 c0_0 : Nat) (e0_0 : n0_0 = x0.Shape.length) (A0_1 : Option Addr) (n0_1 c0_1 : Nat) (e0_1 : n0_1 = x0.Data.length) (hm0 : Mem [] M w0 [.sl (Kd.int .i64) A0_0 c0_0 x0.Shape, .sl Kd.float A0_1 c0_1 x0.Data] w0) (r : Bool) (H0 : law3_Small.f x0 = some r) :
    Calls Try.prog 20 [.agg #[.slice A0_0 n0_0 c0_0, .slice A0_1 n0_1 c0_1]].toArray w0 (fun x w' => ∃ v, x = .returned v ∧ v = .bool r ∧ Mem [] M w0 [] w') := by
  subst e0_0
  subst e0_1
  unfold law3_Small.f at H0
  refine enter (n := 13) Try.func20 rfl rfl (by kernel_rfl) fun a0 (hf0 : Fr 13 a0 [(0, .agg #[.slice A0_0 x0.Shape.length c0_0, .slice A0_1 x0.Data.length c0_1])]) => ?_
  refine wp_seq ?_
  refine inReg ?_
  refine listOf hf0 rfl (by kernel_rfl) (aNew (cs := [.slice A0_0 x0.Shape.length c0_0, .slice A0_1 x0.Data.length c0_1]) (T := 29) (d := 1) hf0 (by kernel_rfl) (by kernel_rfl) ?_)
  intro b21 w22 a23 hbb21 hx25 hg26 hf24
  have hm27 := hm0.box hbb21 hx25 hg26
  refine go 1 [] [1] [(1, .pointer (some ⟨b21, 0, none⟩))] [] hf24 (by kernel_rfl) trivial fun a28 hf29 => ?_
  refine endL rfl ?_
  refine thenN ?_
  refine wp_seq ?_
  rcases if_split H0 with ⟨c30, H0⟩ | ⟨c30, H0⟩
  rotate_left
  · refine reg [.slice A0_0 x0.Shape.length c0_0, .bool false] [2] [(2, .bool false)] [.cell ⟨b21, 0, none⟩ (.slice A0_0 x0.Shape.length c0_0), .is (decide ((x0.Shape.length : Int) ≤ 40) = false)] hf29 (by kernel_rfl) ⟨(hm27.cell 0 rfl rfl), (decide_eq_false c30), trivial⟩ fun a42 hf43 => ?_
    have hm44 := hm27.sel [] _ rfl (by kernel_rfl)
    refine thenN ?_
    refine wp_ret ?_
    have hm45 : Mem [] M w0 [] w22 := hm44.sel [] _ rfl (by kernel_rfl)
    obtain rfl := Option.some.inj H0
    refine ret [] [.bool false] [] hf43 (by kernel_rfl) trivial ?_
    exact ⟨_, rfl, rfl, hm45⟩
  rcases if_split H0 with ⟨c31, H0⟩ | ⟨c31, H0⟩
  · refine reg [.slice A0_0 x0.Shape.length c0_0, .bool true, .slice A0_1 x0.Data.length c0_1, .bool true] [2] [(2, .bool true)] [.cell ⟨b21, 0, none⟩ (.slice A0_0 x0.Shape.length c0_0), .is (decide ((x0.Shape.length : Int) ≤ 40) = true), .cell ⟨b21, 1, none⟩ (.slice A0_1 x0.Data.length c0_1), .is (decide ((x0.Data.length : Int) ≤ 8192) = true)] hf29 (by kernel_rfl) ⟨(hm27.cell 0 rfl rfl), (decide_eq_true c30), (hm27.cell 0 rfl rfl), (decide_eq_true c31), trivial⟩ fun a32 hf33 => ?_
    have hm34 := hm27.sel [] _ rfl (by kernel_rfl)
    refine thenN ?_
    refine wp_ret ?_
    have hm35 : Mem [] M w0 [] w22 := hm34.sel [] _ rfl (by kernel_rfl)
    obtain rfl := Option.some.inj H0
    refine ret [] [.bool true] [] hf33 (by kernel_rfl) trivial ?_
    exact ⟨_, rfl, rfl, hm35⟩
  refine reg [.slice A0_0 x0.Shape.length c0_0, .bool true, .slice A0_1 x0.Data.length c0_1, .bool false] [2] [(2, .bool false)] [.cell ⟨b21, 0, none⟩ (.slice A0_0 x0.Shape.length c0_0), .is (decide ((x0.Shape.length : Int) ≤ 40) = true), .cell ⟨b21, 1, none⟩ (.slice A0_1 x0.Data.length c0_1), .is (decide ((x0.Data.length : Int) ≤ 8192) = false)] hf29 (by kernel_rfl) ⟨(hm27.cell 0 rfl rfl), (decide_eq_true c30), (hm27.cell 0 rfl rfl), (decide_eq_false c31), trivial⟩ fun a37 hf38 => ?_
  have hm39 := hm27.sel [] _ rfl (by kernel_rfl)
  refine thenN ?_
  refine wp_ret ?_
  have hm40 : Mem [] M w0 [] w22 := hm39.sel [] _ rfl (by kernel_rfl)
  obtain rfl := Option.some.inj H0
  refine ret [] [.bool false] [] hf38 (by kernel_rfl) trivial ?_
  exact ⟨_, rfl, rfl, hm40⟩
end Go.Proofs.Yteaoijahdinciaa
