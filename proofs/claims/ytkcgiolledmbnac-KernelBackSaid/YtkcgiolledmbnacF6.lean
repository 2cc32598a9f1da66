/- Printed by gen.py. -/
import Derived.Test.YtkcgiolledmbnacF0
import Derived.Test.YtkcgiolledmbnacF2
import Derived.Test.YtkcgiolledmbnacF3
import Derived.Test.YtkcgiolledmbnacF5
namespace Go.Proofs.Ytkcgiolledmbnac
open Go Go.RowKit
set_option linter.unusedSimpArgs false
set_option linter.unusedVariables false
set_option linter.unnecessarySimpa false
/-! ### backstitch/kernel.Spread -/
noncomputable def kernel_Spread.l0 (r57 : (Tensor × Int)) (x1 : (List Int)) (x0 : Tensor) (s87 : (Int × (List Nat))) : Step (Int × (List Nat)) (Int × (List Nat)) :=
  if s87.1 < (r57.1.Data.length : Int) then (bindS (shape_Place.f x1 s87.1) fun r99 =>
  bindS (kernel_from.f x0.Shape r99) fun r100 =>
  if 0 ≤ r100 ∧ r100 < (x0.Data.length : Int) then (if 0 ≤ s87.1 ∧ s87.1 < (s87.2.length : Int) then (.next ((w64 (s87.1 + 1)), (put s87.2 s87.1 (rd x0.Data r100))))
  else .bad)
  else .bad)
  else (.done (s87.1, s87.2))
noncomputable def kernel_Spread.f (x0 : Tensor) (x1 : (List Int)) : Option (Tensor × Int) :=
  (tensor_May.f x0).bind fun r37 =>
  if r37 = true then ((shape_Into.f x0.Shape x1).bind fun r39 =>
  if r39 = true then ((tensor_New.f x1 0).bind fun r57 =>
  (loop (kernel_Spread.l0 r57 x1 x0) (0, r57.1.Data)).bind fun r88 =>
  some ((⟨r57.1.Shape, r88.2⟩ : Tensor), 0))
  else (some ((⟨([] : (List Int)), ([] : (List Nat))⟩ : Tensor), 2)))
  else (some ((⟨([] : (List Int)), ([] : (List Nat))⟩ : Tensor), 2))
set_option maxRecDepth 100000 in
set_option maxHeartbeats 4000000 in
theorem kernel_Spread.calls (M : List (Option Nat)) (w0 : World) (x0 : Tensor) (A0_0 : Option Addr) (n0_0 c0_0 : Nat) (e0_0 : n0_0 = x0.Shape.length) (A0_1 : Option Addr) (n0_1 c0_1 : Nat) (e0_1 : n0_1 = x0.Data.length) (x1 : (List Int)) (A1 : Option Addr) (n1 c1 : Nat) (e1 : n1 = x1.length) (hm0 : Mem [] M w0 [.sl (Kd.int .i64) A0_0 c0_0 x0.Shape, .sl Kd.float A0_1 c0_1 x0.Data, .sl (Kd.int .i64) A1 c1 x1] w0) (r : (Tensor × Int)) (H0 : kernel_Spread.f x0 x1 = some r) :
    Calls Try.prog 16 [.agg #[.slice A0_0 n0_0 c0_0, .slice A0_1 n0_1 c0_1], .slice A1 n1 c1].toArray w0 (fun x w' => ∃ v, x = .returned v ∧ ∃ Ar0_0 cr0_0 Ar0_1 cr0_1, v = .tuple #[.agg #[.slice Ar0_0 r.1.Shape.length cr0_0, .slice Ar0_1 r.1.Data.length cr0_1], .int .i64 r.2] ∧ Mem [] M w0 [.ow (Kd.int .i64) 3 Ar0_0 cr0_0 r.1.Shape, .ow Kd.float 26 Ar0_1 cr0_1 r.1.Data] w') := by
  subst e0_0
  subst e0_1
  subst e1
  unfold kernel_Spread.f at H0
  refine enter (n := 47) Try.func16 rfl rfl (by kernel_rfl) fun a0 (hf0 : Fr 47 a0 [(0, .agg #[.slice A0_0 x0.Shape.length c0_0, .slice A0_1 x0.Data.length c0_1]), (1, .slice A1 x1.length c1)]) => ?_
  refine wp_seq ?_
  refine inReg ?_
  refine listOf hf0 rfl (by kernel_rfl) (aNew (cs := [.slice A0_0 x0.Shape.length c0_0, .slice A0_1 x0.Data.length c0_1]) (T := 25) (d := 2) hf0 (by kernel_rfl) (by kernel_rfl) ?_)
  intro b21 w22 a23 hbb21 hx25 hg26 hf24
  have hm27 := hm0.box hbb21 hx25 hg26
  refine listOf hf24 rfl (by kernel_rfl) (aNew (cs := [.slice none 0 0, .slice none 0 0]) (T := 25) (d := 4) hf24 (by kernel_rfl) (by kernel_rfl) ?_)
  intro b28 w29 a30 hbb28 hx32 hg33 hf31
  have hm34 := hm27.box hbb28 hx32 hg33
  refine go 1 [] [1, 2, 4] [(1, .slice A1 x1.length c1), (2, .pointer (some ⟨b21, 0, none⟩)), (4, .pointer (some ⟨b28, 0, none⟩))] [] hf31 (by kernel_rfl) trivial fun a35 hf36 => ?_
  refine endL rfl ?_
  refine thenN ?_
  refine wp_seq ?_
  refine wp_seq ?_
  obtain ⟨r37, hr37, H0⟩ := ob_split H0
  rcases ifb_split H0 with ⟨c38, H0⟩ | ⟨c38, H0⟩
  rotate_left
  · refine inReg ?_
    refine go 1 [.agg #[.slice A0_0 x0.Shape.length c0_0, .slice A0_1 x0.Data.length c0_1]] [1, 2, 4, 9] [(1, .slice A1 x1.length c1), (2, .pointer (some ⟨b21, 0, none⟩)), (4, .pointer (some ⟨b28, 0, none⟩)), (9, .agg #[.slice A0_0 x0.Shape.length c0_0, .slice A0_1 x0.Data.length c0_1])] [.cell ⟨b21, 0, none⟩ (.slice A0_0 x0.Shape.length c0_0), .cell ⟨b21, 1, none⟩ (.slice A0_1 x0.Data.length c0_1)] hf36 (by kernel_rfl) ⟨(hm34.cell 1 rfl rfl), (hm34.cell 1 rfl rfl), trivial⟩ fun a232 hf233 => ?_
    refine listOf hf233 rfl (by kernel_rfl) (aCall (fid := 25) (args := [.agg #[.slice A0_0 x0.Shape.length c0_0, .slice A0_1 x0.Data.length c0_1]]) (d := 10) hf233 (by kernel_rfl) (by kernel_rfl) callable25 (tensor_May.calls _ _ x0 A0_0 x0.Shape.length c0_0 rfl A0_1 x0.Data.length c0_1 rfl (hm34.give [2, 3] [.sl (Kd.int .i64) A0_0 c0_0 x0.Shape, .sl Kd.float A0_1 c0_1 x0.Data] rfl rfl) r37 hr37) ?_)
    rintro _ w234 a235 ⟨rfl, hk237⟩ hf236
    have hm238 := hm34.still hk237.cum.none
    rw [c38] at hf236
    refine go 8 [] [1, 2, 4, 18] [(1, .slice A1 x1.length c1), (2, .pointer (some ⟨b21, 0, none⟩)), (4, .pointer (some ⟨b28, 0, none⟩)), (18, .bool true)] [] hf236 (by kernel_rfl) trivial fun a239 hf240 => ?_
    refine endL rfl ?_
    refine thenN ?_
    refine condT hf240 (by kernel_rfl) ?_
    refine wp_seq ?_
    refine inReg ?_
    refine go 1 [] [4, 19] [(4, .pointer (some ⟨b28, 0, none⟩)), (19, .agg #[.slice none 0 0, .slice none 0 0])] [] hf240 (by kernel_rfl) trivial fun a241 hf242 => ?_
    refine listOf hf242 rfl (by kernel_rfl) (aStoreB (b := b28) (j := 0) (T := 25) (cs := [.slice none 0 0, .slice none 0 0]) (us := [.slice none 0 0, .slice none 0 0]) (cs' := [.slice none 0 0, .slice none 0 0]) hf242 (by kernel_rfl) (hm238.bxAt 0 rfl) (by kernel_rfl) (by kernel_rfl) (by kernel_rfl) ?_)
    intro w243 hx244 hg245
    have hm246 := hm238.setBox 0 _ rfl rfl hx244 hg245
    refine go 1 [] [4, 5] [(4, .pointer (some ⟨b28, 0, none⟩)), (5, .int .i64 2)] [] hf242 (by kernel_rfl) trivial fun a247 hf248 => ?_
    refine endL rfl ?_
    have hm249 := hm246.sel [0] _ rfl (by kernel_rfl)
    refine thenN ?_
    refine wp_ret ?_
    refine thenR ?_
    have hm250 := hm249.nilOw (Kd.int .i64) 3
    have hm251 := hm250.nilOw Kd.float 26
    have hm252 : Mem [] M w0 [.ow (Kd.int .i64) 3 none 0 ([] : (List Int)), .ow Kd.float 26 none 0 ([] : (List Nat))] w243 := hm251.sel [1, 0] _ rfl (by kernel_rfl)
    obtain rfl := Option.some.inj H0
    refine ret [.agg #[.slice none 0 0, .slice none 0 0]] [.agg #[.slice none 0 0, .slice none 0 0], .int .i64 2] [.cell ⟨b28, 0, none⟩ (.slice none 0 0), .cell ⟨b28, 1, none⟩ (.slice none 0 0)] hf248 (by kernel_rfl) ⟨(hm249.cell 0 rfl rfl), (hm249.cell 0 rfl rfl), trivial⟩ ?_
    exact ⟨_, rfl, none, 0, none, 0, rfl, hm252⟩
  obtain ⟨r39, hr39, H0⟩ := ob_split H0
  rcases ifb_split H0 with ⟨c40, H0⟩ | ⟨c40, H0⟩
  rotate_left
  · refine inReg ?_
    refine go 1 [.agg #[.slice A0_0 x0.Shape.length c0_0, .slice A0_1 x0.Data.length c0_1]] [1, 2, 4, 9] [(1, .slice A1 x1.length c1), (2, .pointer (some ⟨b21, 0, none⟩)), (4, .pointer (some ⟨b28, 0, none⟩)), (9, .agg #[.slice A0_0 x0.Shape.length c0_0, .slice A0_1 x0.Data.length c0_1])] [.cell ⟨b21, 0, none⟩ (.slice A0_0 x0.Shape.length c0_0), .cell ⟨b21, 1, none⟩ (.slice A0_1 x0.Data.length c0_1)] hf36 (by kernel_rfl) ⟨(hm34.cell 1 rfl rfl), (hm34.cell 1 rfl rfl), trivial⟩ fun a203 hf204 => ?_
    refine listOf hf204 rfl (by kernel_rfl) (aCall (fid := 25) (args := [.agg #[.slice A0_0 x0.Shape.length c0_0, .slice A0_1 x0.Data.length c0_1]]) (d := 10) hf204 (by kernel_rfl) (by kernel_rfl) callable25 (tensor_May.calls _ _ x0 A0_0 x0.Shape.length c0_0 rfl A0_1 x0.Data.length c0_1 rfl (hm34.give [2, 3] [.sl (Kd.int .i64) A0_0 c0_0 x0.Shape, .sl Kd.float A0_1 c0_1 x0.Data] rfl rfl) r37 hr37) ?_)
    rintro _ w205 a206 ⟨rfl, hk208⟩ hf207
    have hm209 := hm34.still hk208.cum.none
    rw [c38] at hf207
    refine go 5 [.slice A0_0 x0.Shape.length c0_0] [1, 2, 4, 12, 14, 15] [(1, .slice A1 x1.length c1), (2, .pointer (some ⟨b21, 0, none⟩)), (4, .pointer (some ⟨b28, 0, none⟩)), (12, .bool false), (14, .slice A0_0 x0.Shape.length c0_0), (15, .slice A1 x1.length c1)] [.cell ⟨b21, 0, none⟩ (.slice A0_0 x0.Shape.length c0_0)] hf207 (by kernel_rfl) ⟨(hm209.cell 1 rfl rfl), trivial⟩ fun a210 hf211 => ?_
    refine listOf hf211 rfl (by kernel_rfl) (aCall (fid := 32) (args := [.slice A0_0 x0.Shape.length c0_0, .slice A1 x1.length c1]) (d := 16) hf211 (by kernel_rfl) (by kernel_rfl) callable32 (shape_Into.calls _ _ x0.Shape A0_0 x0.Shape.length c0_0 rfl x1 A1 x1.length c1 rfl (hm209.give [2, 4] [.sl (Kd.int .i64) A0_0 c0_0 x0.Shape, .sl (Kd.int .i64) A1 c1 x1] rfl rfl) r39 hr39) ?_)
    rintro _ w212 a213 ⟨rfl, hk215⟩ hf214
    have hm216 := hm209.still hk215.cum.none
    rw [c40] at hf214
    refine go 2 [] [1, 2, 4, 18] [(1, .slice A1 x1.length c1), (2, .pointer (some ⟨b21, 0, none⟩)), (4, .pointer (some ⟨b28, 0, none⟩)), (18, .bool true)] [] hf214 (by kernel_rfl) trivial fun a217 hf218 => ?_
    refine endL rfl ?_
    refine thenN ?_
    refine condT hf218 (by kernel_rfl) ?_
    refine wp_seq ?_
    refine inReg ?_
    refine go 1 [] [4, 19] [(4, .pointer (some ⟨b28, 0, none⟩)), (19, .agg #[.slice none 0 0, .slice none 0 0])] [] hf218 (by kernel_rfl) trivial fun a219 hf220 => ?_
    refine listOf hf220 rfl (by kernel_rfl) (aStoreB (b := b28) (j := 0) (T := 25) (cs := [.slice none 0 0, .slice none 0 0]) (us := [.slice none 0 0, .slice none 0 0]) (cs' := [.slice none 0 0, .slice none 0 0]) hf220 (by kernel_rfl) (hm216.bxAt 0 rfl) (by kernel_rfl) (by kernel_rfl) (by kernel_rfl) ?_)
    intro w221 hx222 hg223
    have hm224 := hm216.setBox 0 _ rfl rfl hx222 hg223
    refine go 1 [] [4, 5] [(4, .pointer (some ⟨b28, 0, none⟩)), (5, .int .i64 2)] [] hf220 (by kernel_rfl) trivial fun a225 hf226 => ?_
    refine endL rfl ?_
    have hm227 := hm224.sel [0] _ rfl (by kernel_rfl)
    refine thenN ?_
    refine wp_ret ?_
    refine thenR ?_
    have hm228 := hm227.nilOw (Kd.int .i64) 3
    have hm229 := hm228.nilOw Kd.float 26
    have hm230 : Mem [] M w0 [.ow (Kd.int .i64) 3 none 0 ([] : (List Int)), .ow Kd.float 26 none 0 ([] : (List Nat))] w221 := hm229.sel [1, 0] _ rfl (by kernel_rfl)
    obtain rfl := Option.some.inj H0
    refine ret [.agg #[.slice none 0 0, .slice none 0 0]] [.agg #[.slice none 0 0, .slice none 0 0], .int .i64 2] [.cell ⟨b28, 0, none⟩ (.slice none 0 0), .cell ⟨b28, 1, none⟩ (.slice none 0 0)] hf226 (by kernel_rfl) ⟨(hm227.cell 0 rfl rfl), (hm227.cell 0 rfl rfl), trivial⟩ ?_
    exact ⟨_, rfl, none, 0, none, 0, rfl, hm230⟩
  refine inReg ?_
  refine go 1 [.agg #[.slice A0_0 x0.Shape.length c0_0, .slice A0_1 x0.Data.length c0_1]] [1, 2, 4, 9] [(1, .slice A1 x1.length c1), (2, .pointer (some ⟨b21, 0, none⟩)), (4, .pointer (some ⟨b28, 0, none⟩)), (9, .agg #[.slice A0_0 x0.Shape.length c0_0, .slice A0_1 x0.Data.length c0_1])] [.cell ⟨b21, 0, none⟩ (.slice A0_0 x0.Shape.length c0_0), .cell ⟨b21, 1, none⟩ (.slice A0_1 x0.Data.length c0_1)] hf36 (by kernel_rfl) ⟨(hm34.cell 1 rfl rfl), (hm34.cell 1 rfl rfl), trivial⟩ fun a41 hf42 => ?_
  refine listOf hf42 rfl (by kernel_rfl) (aCall (fid := 25) (args := [.agg #[.slice A0_0 x0.Shape.length c0_0, .slice A0_1 x0.Data.length c0_1]]) (d := 10) hf42 (by kernel_rfl) (by kernel_rfl) callable25 (tensor_May.calls _ _ x0 A0_0 x0.Shape.length c0_0 rfl A0_1 x0.Data.length c0_1 rfl (hm34.give [2, 3] [.sl (Kd.int .i64) A0_0 c0_0 x0.Shape, .sl Kd.float A0_1 c0_1 x0.Data] rfl rfl) r37 hr37) ?_)
  rintro _ w43 a44 ⟨rfl, hk46⟩ hf45
  have hm47 := hm34.still hk46.cum.none
  rw [c38] at hf45
  refine go 5 [.slice A0_0 x0.Shape.length c0_0] [1, 2, 4, 12, 14, 15] [(1, .slice A1 x1.length c1), (2, .pointer (some ⟨b21, 0, none⟩)), (4, .pointer (some ⟨b28, 0, none⟩)), (12, .bool false), (14, .slice A0_0 x0.Shape.length c0_0), (15, .slice A1 x1.length c1)] [.cell ⟨b21, 0, none⟩ (.slice A0_0 x0.Shape.length c0_0)] hf45 (by kernel_rfl) ⟨(hm47.cell 1 rfl rfl), trivial⟩ fun a48 hf49 => ?_
  refine listOf hf49 rfl (by kernel_rfl) (aCall (fid := 32) (args := [.slice A0_0 x0.Shape.length c0_0, .slice A1 x1.length c1]) (d := 16) hf49 (by kernel_rfl) (by kernel_rfl) callable32 (shape_Into.calls _ _ x0.Shape A0_0 x0.Shape.length c0_0 rfl x1 A1 x1.length c1 rfl (hm47.give [2, 4] [.sl (Kd.int .i64) A0_0 c0_0 x0.Shape, .sl (Kd.int .i64) A1 c1 x1] rfl rfl) r39 hr39) ?_)
  rintro _ w50 a51 ⟨rfl, hk53⟩ hf52
  have hm54 := hm47.still hk53.cum.none
  rw [c40] at hf52
  refine go 2 [] [1, 2, 4, 18] [(1, .slice A1 x1.length c1), (2, .pointer (some ⟨b21, 0, none⟩)), (4, .pointer (some ⟨b28, 0, none⟩)), (18, .bool false)] [] hf52 (by kernel_rfl) trivial fun a55 hf56 => ?_
  refine endL rfl ?_
  refine thenN ?_
  refine condF hf56 (by kernel_rfl) ?_
  refine wp_skip ?_
  refine thenN ?_
  refine wp_seq ?_
  obtain ⟨r57, hr57, H0⟩ := ob_split H0
  refine inReg ?_
  refine go 1 [] [1, 2, 4, 21] [(1, .slice A1 x1.length c1), (2, .pointer (some ⟨b21, 0, none⟩)), (4, .pointer (some ⟨b28, 0, none⟩)), (21, .slice A1 x1.length c1)] [] hf56 (by kernel_rfl) trivial fun a58 hf59 => ?_
  refine listOf hf59 rfl (by kernel_rfl) (aCall (fid := 23) (args := [.slice A1 x1.length c1, .float .f64 0]) (d := 22) hf59 (by kernel_rfl) (by kernel_rfl) callable23 (tensor_New.calls _ _ x1 A1 x1.length c1 rfl 0 0 ((FR.lit (by kernel_rfl) (by kernel_rfl))) (hm54.give [4] [.sl (Kd.int .i64) A1 c1 x1] rfl rfl) r57 hr57) ?_)
  rintro _ w65 a66 ⟨A60, c61, A62, c63, rfl, hk68⟩ hf67
  have hm69 := hm54.back hk68
  refine go 3 [] [1, 2, 4, 23, 24] [(1, .slice A1 x1.length c1), (2, .pointer (some ⟨b21, 0, none⟩)), (4, .pointer (some ⟨b28, 0, none⟩)), (23, .agg #[.slice A60 r57.1.Shape.length c61, .slice A62 r57.1.Data.length c63]), (24, .int .i64 r57.2)] [] hf67 (by kernel_rfl) trivial fun a70 hf71 => ?_
  refine listOf hf71 rfl (by kernel_rfl) (aNew (cs := [.slice none 0 0, .slice none 0 0]) (T := 25) (d := 6) hf71 (by kernel_rfl) (by kernel_rfl) ?_)
  intro b72 w73 a74 hbb72 hx76 hg77 hf75
  have hm78 := hm69.box hbb72 hx76 hg77
  refine listOf hf75 rfl (by kernel_rfl) (aStoreB (b := b72) (j := 0) (T := 25) (cs := [.slice none 0 0, .slice none 0 0]) (us := [.slice A60 r57.1.Shape.length c61, .slice A62 r57.1.Data.length c63]) (cs' := [.slice A60 r57.1.Shape.length c61, .slice A62 r57.1.Data.length c63]) hf75 (by kernel_rfl) (hm78.bxAt 0 rfl) (by kernel_rfl) (by kernel_rfl) (by kernel_rfl) ?_)
  intro w79 hx80 hg81
  have hm82 := hm78.setBox 0 _ rfl rfl hx80 hg81
  refine go 1 [] [1, 2, 4, 6] [(1, .slice A1 x1.length c1), (2, .pointer (some ⟨b21, 0, none⟩)), (4, .pointer (some ⟨b28, 0, none⟩)), (6, .pointer (some ⟨b72, 0, none⟩))] [] hf75 (by kernel_rfl) trivial fun a83 hf84 => ?_
  refine endL rfl ?_
  refine thenN ?_
  refine wp_seq ?_
  refine wp_seq ?_
  refine reg [.slice A62 r57.1.Data.length c63] [1, 2, 4, 6, 27, 28] [(1, .slice A1 x1.length c1), (2, .pointer (some ⟨b21, 0, none⟩)), (4, .pointer (some ⟨b28, 0, none⟩)), (6, .pointer (some ⟨b72, 0, none⟩)), (27, .int .i64 (r57.1.Data.length : Int)), (28, .int .i64 0)] [.cell ⟨b72, 1, none⟩ (.slice A62 r57.1.Data.length c63)] hf84 (by kernel_rfl) ⟨(hm82.cell 0 rfl rfl), trivial⟩ fun a85 hf86 => ?_
  refine thenN ?_
  obtain ⟨r88, hr88, H0⟩ := ob_split H0
  refine wpBlock (Mid := fun (a : Act) (w : World) => Fr 47 a [(1, .slice A1 x1.length c1), (2, .pointer (some ⟨b21, 0, none⟩)), (4, .pointer (some ⟨b28, 0, none⟩)), (6, .pointer (some ⟨b72, 0, none⟩)), (27, .int .i64 (r57.1.Data.length : Int)), (28, .int .i64 r88.1)] ∧ Mem [] M w0 [.bx b72 [.slice A60 r57.1.Shape.length c61, .slice A62 r88.2.length c63] 25, .ow (Kd.int .i64) 3 A60 c61 r57.1.Shape, .ow Kd.float 26 A62 c63 r88.2, .bx b28 [.slice none 0 0, .slice none 0 0] 25, .bx b21 [.slice A0_0 x0.Shape.length c0_0, .slice A0_1 x0.Data.length c0_1] 25, .sl (Kd.int .i64) A0_0 c0_0 x0.Shape, .sl Kd.float A0_1 c0_1 x0.Data, .sl (Kd.int .i64) A1 c1 x1] w) ?_ ?_
  · refine wpLoop (kernel_Spread.l0 r57 x1 x0) r88 (fun (s87 : (Int × (List Nat))) (a : Act) (w : World) => Fr 47 a [(1, .slice A1 x1.length c1), (2, .pointer (some ⟨b21, 0, none⟩)), (4, .pointer (some ⟨b28, 0, none⟩)), (6, .pointer (some ⟨b72, 0, none⟩)), (27, .int .i64 (r57.1.Data.length : Int)), (28, .int .i64 s87.1)] ∧ Mem [] M w0 [.bx b72 [.slice A60 r57.1.Shape.length c61, .slice A62 s87.2.length c63] 25, .ow (Kd.int .i64) 3 A60 c61 r57.1.Shape, .ow Kd.float 26 A62 c63 s87.2, .bx b28 [.slice none 0 0, .slice none 0 0] 25, .bx b21 [.slice A0_0 x0.Shape.length c0_0, .slice A0_1 x0.Data.length c0_1] 25, .sl (Kd.int .i64) A0_0 c0_0 x0.Shape, .sl Kd.float A0_1 c0_1 x0.Data, .sl (Kd.int .i64) A1 c1 x1] w) (0, r57.1.Data) hr88 ⟨hf86.sel (l := [1, 2, 4, 6, 27, 28]) (by kernel_rfl), hm82.sel [0, 1, 2, 3, 4, 5, 6, 7] _ rfl (by kernel_rfl)⟩ ?_
    rintro g89 s87 a90 w91 H1 ⟨hf92, hm93⟩
    unfold kernel_Spread.l0 at H1
    refine wp_seq ?_
    rcases ifS_split H1 with ⟨c94, H1⟩ | ⟨c94, H1⟩
    rotate_left
    · refine reg [.bool false] [1, 2, 4, 6, 27, 28, 29] [(1, .slice A1 x1.length c1), (2, .pointer (some ⟨b21, 0, none⟩)), (4, .pointer (some ⟨b28, 0, none⟩)), (6, .pointer (some ⟨b72, 0, none⟩)), (27, .int .i64 (r57.1.Data.length : Int)), (28, .int .i64 s87.1), (29, .bool false)] [.is (decide (s87.1 < (r57.1.Data.length : Int)) = false)] hf92 (by kernel_rfl) ⟨(decide_eq_false c94), trivial⟩ fun a186 hf187 => ?_
      refine thenN ?_
      refine wp_seq ?_
      refine condF hf187 (by kernel_rfl) ?_
      refine wp_exit ?_
      refine thenE ?_
      refine thenE ?_
      obtain rfl := Option.some.inj H1
      exact .inl ⟨rfl, hf187.sel (l := [1, 2, 4, 6, 27, 28]) (by kernel_rfl), hm93.sel [0, 1, 2, 3, 4, 5, 6, 7] _ rfl (by kernel_rfl)⟩
    refine reg [.bool true] [1, 2, 4, 6, 27, 28, 29] [(1, .slice A1 x1.length c1), (2, .pointer (some ⟨b21, 0, none⟩)), (4, .pointer (some ⟨b28, 0, none⟩)), (6, .pointer (some ⟨b72, 0, none⟩)), (27, .int .i64 (r57.1.Data.length : Int)), (28, .int .i64 s87.1), (29, .bool true)] [.is (decide (s87.1 < (r57.1.Data.length : Int)) = true)] hf92 (by kernel_rfl) ⟨(decide_eq_true c94), trivial⟩ fun a95 hf96 => ?_
    refine thenN ?_
    refine wp_seq ?_
    refine condT hf96 (by kernel_rfl) ?_
    refine wp_skip ?_
    refine thenN ?_
    refine wp_seq ?_
    refine wp_block ?_
    refine wp_seq ?_
    refine reg [] [1, 2, 4, 6, 8, 27, 28] [(1, .slice A1 x1.length c1), (2, .pointer (some ⟨b21, 0, none⟩)), (4, .pointer (some ⟨b28, 0, none⟩)), (6, .pointer (some ⟨b72, 0, none⟩)), (8, .int .i64 s87.1), (27, .int .i64 (r57.1.Data.length : Int)), (28, .int .i64 s87.1)] [] hf96 (by kernel_rfl) trivial fun a97 hf98 => ?_
    refine thenN ?_
    obtain ⟨r99, hr99, H1⟩ := obS_split H1
    obtain ⟨r100, hr100, H1⟩ := obS_split H1
    obtain ⟨g101, H1⟩ := ifS_guard H1
    obtain ⟨g102, H1⟩ := ifS_guard H1
    refine midReg (fun (a : Act) (w : World) => Fr 47 a [(1, .slice A1 x1.length c1), (2, .pointer (some ⟨b21, 0, none⟩)), (4, .pointer (some ⟨b28, 0, none⟩)), (6, .pointer (some ⟨b72, 0, none⟩)), (27, .int .i64 (r57.1.Data.length : Int)), (28, .int .i64 s87.1)] ∧ Mem [] M w0 [.bx b72 [.slice A60 r57.1.Shape.length c61, .slice A62 s87.2.length c63] 25, .ow (Kd.int .i64) 3 A60 c61 r57.1.Shape, .ow Kd.float 26 A62 c63 (put s87.2 s87.1 (rd x0.Data r100)), .bx b28 [.slice none 0 0, .slice none 0 0] 25, .bx b21 [.slice A0_0 x0.Shape.length c0_0, .slice A0_1 x0.Data.length c0_1] 25, .sl (Kd.int .i64) A0_0 c0_0 x0.Shape, .sl Kd.float A0_1 c0_1 x0.Data, .sl (Kd.int .i64) A1 c1 x1] w) ?_ ?_
    · refine anyG [14] (by kernel_rfl) fun w125 hg126 => ?_
      have hm127 := hm93.still hg126
      refine quiet0 [0, 1, 2, 3, 4, 5, 6, 7, 8] [.slice A62 s87.2.length c63, .slice A0_1 x0.Data.length c0_1, .slice A0_0 x0.Shape.length c0_0] [1, 2, 4, 6, 27, 28, 32, 33, 35, 37, 38, 39] #[true, true, true, true, true, true, true, true, true, false, false, false, false, false, false] [(1, .slice A1 x1.length c1), (2, .pointer (some ⟨b21, 0, none⟩)), (4, .pointer (some ⟨b28, 0, none⟩)), (6, .pointer (some ⟨b72, 0, none⟩)), (27, .int .i64 (r57.1.Data.length : Int)), (28, .int .i64 s87.1), (32, .slice A62 s87.2.length c63), (33, .int .i64 s87.1), (35, .slice A0_1 x0.Data.length c0_1), (37, .slice A0_0 x0.Shape.length c0_0), (38, .slice A1 x1.length c1), (39, .int .i64 s87.1)] [.cell ⟨b72, 1, none⟩ (.slice A62 s87.2.length c63), .cell ⟨b21, 1, none⟩ (.slice A0_1 x0.Data.length c0_1), .cell ⟨b21, 0, none⟩ (.slice A0_0 x0.Shape.length c0_0)] 6 rfl (by kernel_rfl) (fun _ _ _ _ _ h => nomatch h.1) hf98 (by kernel_rfl) ⟨(hm127.cell 0 rfl rfl), (hm127.cell 4 rfl rfl), (hm127.cell 4 rfl rfl), trivial⟩ fun a153 hf154 => ?_
      refine all1 9 (by kernel_rfl) ?_
      refine opOf hf154 rfl (by kernel_rfl) (aCall (fid := 34) (args := [.slice A1 x1.length c1, .int .i64 s87.1]) (d := 40) hf154 (by kernel_rfl) (by kernel_rfl) callable34 (shape_Place.calls _ _ x1 A1 x1.length c1 rfl s87.1 (hm127.give [7] [.sl (Kd.int .i64) A1 c1 x1] rfl rfl) r99 hr99) ?_)
      rintro _ w157 a158 ⟨A155, c156, rfl, hk160⟩ hf159
      refine ⟨.inr (Gr.still hk160.cum.none), ?_⟩
      have hm161 := hm127.back hk160
      have hm162 := hm161.seal 0 _ rfl rfl
      refine all1 10 (by kernel_rfl) ?_
      refine opOf hf159 rfl (by kernel_rfl) (aCall (fid := 33) (args := [.slice A0_0 x0.Shape.length c0_0, .slice A155 r99.length c156]) (d := 41) hf159 (by kernel_rfl) (by kernel_rfl) callable33 (kernel_from.calls _ _ x0.Shape A0_0 x0.Shape.length c0_0 rfl r99 A155 r99.length c156 rfl (hm162.give [6, 0] [.sl (Kd.int .i64) A0_0 c0_0 x0.Shape, .sl (Kd.int .i64) A155 c156 r99] rfl rfl) r100 hr100) ?_)
      rintro _ w163 a164 ⟨rfl, hk166⟩ hf165
      refine ⟨.inr (Gr.still hk166.cum.none), ?_⟩
      have hm167 := hm162.still hk166.cum.none
      have q168 := (hm167.slAt 7 rfl).float r100 g101.1 g101.2
      obtain ⟨b169, hb169, kb169⟩ := q168.2
      have q170 := (hm167.owAt 3 rfl).float s87.1 g102.1 g102.2
      obtain ⟨b171, hb171, kb171⟩ := q170.2
      refine quiet0 [11, 12, 13] [.float .f64 b169] [1, 2, 4, 6, 27, 28, 43, 44] #[true, true, true, true, true, true, true, true, true, true, true, true, true, true, false] [(1, .slice A1 x1.length c1), (2, .pointer (some ⟨b21, 0, none⟩)), (4, .pointer (some ⟨b28, 0, none⟩)), (6, .pointer (some ⟨b72, 0, none⟩)), (27, .int .i64 (r57.1.Data.length : Int)), (28, .int .i64 s87.1), (43, .float .f64 b169), (44, .pointer (some ((ad A62).add ((s87.1).toNat * 1))))] [.is (Option.isSome A0_1 = true), .is (0 ≤ r100 ∧ r100 < (x0.Data.length : Int)), .cell ((ad A0_1).add ((r100).toNat * 1)) (.float .f64 b169), .is (Option.isSome A62 = true), .is (0 ≤ s87.1 ∧ s87.1 < (s87.2.length : Int))] 1 rfl (by kernel_rfl) (fun _ _ _ _ _ h => nomatch h.1) hf165 (by kernel_rfl) ⟨q168.1, g101, kb169, q170.1, g102, trivial⟩ fun a172 hf173 => ?_
      refine all1 14 (by kernel_rfl) ?_
      refine opOf hf173 rfl (by kernel_rfl) (aStoreO (kd := Kd.float) (base := 0) (E := 26) (A := A62) (c := c63) (xs := s87.2) (i := s87.1) (x := (rd x0.Data r100)) (us := [.float .f64 b169]) (sz := 1) hf173 (by kernel_rfl) rfl (by kernel_rfl) (hm167.at 3 rfl) ⟨_, rfl, hb169⟩ g102.1 g102.2 ?_)
      intro w174 hx175 hg176
      refine ⟨.inl (by decide), ?_⟩
      have hm177 := hm167.setOwn 3 _ rfl rfl hx175 hg176 (.inl rfl)
      refine allDone (by kernel_rfl) ⟨rfl, hf173.sel (l := [1, 2, 4, 6, 27, 28]) (by kernel_rfl), hm177.sel [1, 2, 3, 4, 5, 6, 7, 8] _ rfl (by kernel_rfl)⟩
    rintro a178 w179 ⟨hf180, hm181⟩
    refine blkN ?_
    refine thenN ?_
    refine reg [] [1, 2, 4, 6, 27, 28] [(1, .slice A1 x1.length c1), (2, .pointer (some ⟨b21, 0, none⟩)), (4, .pointer (some ⟨b28, 0, none⟩)), (6, .pointer (some ⟨b72, 0, none⟩)), (27, .int .i64 (r57.1.Data.length : Int)), (28, .int .i64 (w64 (s87.1 + 1)))] [] hf180 (by kernel_rfl) trivial fun a182 hf183 => ?_
    have hf184 : Fr 47 a182 [(1, .slice A1 x1.length c1), (2, .pointer (some ⟨b21, 0, none⟩)), (4, .pointer (some ⟨b28, 0, none⟩)), (6, .pointer (some ⟨b72, 0, none⟩)), (27, .int .i64 (r57.1.Data.length : Int)), (28, .int .i64 (w64 (s87.1 + 1)))] := hf183.sel (l := [1, 2, 4, 6, 27, 28]) (by kernel_rfl)
    have hm185 : Mem [] M w0 [.bx b72 [.slice A60 r57.1.Shape.length c61, .slice A62 s87.2.length c63] 25, .ow (Kd.int .i64) 3 A60 c61 r57.1.Shape, .ow Kd.float 26 A62 c63 (put s87.2 s87.1 (rd x0.Data r100)), .bx b28 [.slice none 0 0, .slice none 0 0] 25, .bx b21 [.slice A0_0 x0.Shape.length c0_0, .slice A0_1 x0.Data.length c0_1] 25, .sl (Kd.int .i64) A0_0 c0_0 x0.Shape, .sl Kd.float A0_1 c0_1 x0.Data, .sl (Kd.int .i64) A1 c1 x1] w179 := hm181.sel [0, 1, 2, 3, 4, 5, 6, 7] _ rfl (by kernel_rfl)
    exact ⟨((w64 (s87.1 + 1)), (put s87.2 s87.1 (rd x0.Data r100))), H1, (by simpa only [put_length, List.length_nil] using hf184), (by simpa only [put_length, List.length_nil] using hm185)⟩
  rintro a188 w189 ⟨hf190, hm191⟩
  refine thenN ?_
  refine wp_seq ?_
  refine inReg ?_
  refine go 1 [.agg #[.slice A60 r57.1.Shape.length c61, .slice A62 r88.2.length c63]] [4, 46] [(4, .pointer (some ⟨b28, 0, none⟩)), (46, .agg #[.slice A60 r57.1.Shape.length c61, .slice A62 r88.2.length c63])] [.cell ⟨b72, 0, none⟩ (.slice A60 r57.1.Shape.length c61), .cell ⟨b72, 1, none⟩ (.slice A62 r88.2.length c63)] hf190 (by kernel_rfl) ⟨(hm191.cell 0 rfl rfl), (hm191.cell 0 rfl rfl), trivial⟩ fun a192 hf193 => ?_
  refine listOf hf193 rfl (by kernel_rfl) (aStoreB (b := b28) (j := 0) (T := 25) (cs := [.slice none 0 0, .slice none 0 0]) (us := [.slice A60 r57.1.Shape.length c61, .slice A62 r88.2.length c63]) (cs' := [.slice A60 r57.1.Shape.length c61, .slice A62 r88.2.length c63]) hf193 (by kernel_rfl) (hm191.bxAt 3 rfl) (by kernel_rfl) (by kernel_rfl) (by kernel_rfl) ?_)
  intro w194 hx195 hg196
  have hm197 := hm191.setBox 3 _ rfl rfl hx195 hg196
  refine go 1 [] [4, 5] [(4, .pointer (some ⟨b28, 0, none⟩)), (5, .int .i64 0)] [] hf193 (by kernel_rfl) trivial fun a198 hf199 => ?_
  refine endL rfl ?_
  have hm200 := hm197.sel [1, 2, 3] _ rfl (by kernel_rfl)
  refine thenN ?_
  refine wp_ret ?_
  have hm201 : Mem [] M w0 [.ow (Kd.int .i64) 3 A60 c61 r57.1.Shape, .ow Kd.float 26 A62 c63 r88.2] w194 := hm200.sel [0, 1] _ rfl (by kernel_rfl)
  obtain rfl := Option.some.inj H0
  refine ret [.agg #[.slice A60 r57.1.Shape.length c61, .slice A62 r88.2.length c63]] [.agg #[.slice A60 r57.1.Shape.length c61, .slice A62 r88.2.length c63], .int .i64 0] [.cell ⟨b28, 0, none⟩ (.slice A60 r57.1.Shape.length c61), .cell ⟨b28, 1, none⟩ (.slice A62 r88.2.length c63)] hf199 (by kernel_rfl) ⟨(hm200.cell 2 rfl rfl), (hm200.cell 2 rfl rfl), trivial⟩ ?_
  exact ⟨_, rfl, A60, c61, A62, c63, rfl, hm201⟩

/-! ### (backstitch/real.Real).Plus -/
noncomputable def real_Real_Plus.f (x0 : Nat) (x1 : Nat) : Option Nat :=
  some (fadd x0 x1)
set_option maxRecDepth 100000 in
set_option maxHeartbeats 4000000 in
theorem real_Real_Plus.calls (M : List (Option Nat)) (w0 : World) (x0 : Nat) (b0 : Nat) (h0 : FR b0 x0) (x1 : Nat) (b1 : Nat) (h1 : FR b1 x1) (hm0 : Mem [] M w0 [] w0) (r : Nat) (H0 : real_Real_Plus.f x0 x1 = some r) :
    Calls Try.prog 56 [.float .f64 b0, .float .f64 b1].toArray w0 (fun x w' => ∃ v, x = .returned v ∧ ∃ br0, v = .float .f64 br0 ∧ FR br0 r ∧ Mem [] M w0 [] w') := by
  unfold real_Real_Plus.f at H0
  refine enter (n := 8) Try.func56 rfl rfl (by kernel_rfl) fun a0 (hf0 : Fr 8 a0 [(0, .float .f64 b0), (1, .float .f64 b1)]) => ?_
  refine wp_seq ?_
  refine reg [] [0, 1] [(0, .float .f64 b0), (1, .float .f64 b1)] [] hf0 (by kernel_rfl) trivial fun a21 hf22 => ?_
  refine thenN ?_
  refine wp_seq ?_
  refine inReg ?_
  refine go 2 [] [5, 6] [(5, .float .f64 b0), (6, .float .f64 b1)] [] hf22 (by kernel_rfl) trivial fun a23 hf24 => ?_
  refine listOf hf24 rfl (by kernel_rfl) (aArith (k := 0) (b := b0) (c := b1) (x := x0) (y := x1) (d := 7) hf24 (by kernel_rfl) (by kernel_rfl) h0 h1 ?_)
  intro b25 w26 a27 hb25 hg29 hf28
  replace hb25 : FR b25 (fadd x0 x1) := hb25
  have hm30 := hm0.still hg29
  refine go 1 [] [4] [(4, .float .f64 b25)] [] hf28 (by kernel_rfl) trivial fun a31 hf32 => ?_
  refine endL rfl ?_
  refine thenN ?_
  refine wp_ret ?_
  have hm33 : Mem [] M w0 [] w26 := hm30.sel [] _ rfl (by kernel_rfl)
  obtain rfl := Option.some.inj H0
  refine ret [] [.float .f64 b25] [] hf32 (by kernel_rfl) trivial ?_
  exact ⟨_, rfl, b25, rfl, hb25, hm33⟩

/-! ### backstitch/real.halves -/
noncomputable def real_halves_real_Real_Plus.F : Nat → (List Nat) → Option Nat
  | 0, _ => none
  | k + 1, x0 =>
  if (x0.length : Int) = 1 then (if (0 : Int) ≤ 0 ∧ 0 < (x0.length : Int) then (some (rd x0 0))
  else none)
  else (if 0 ≤ (w64 (Int.tdiv (w64 ((x0.length : Int) + 1)) 2)) ∧ (w64 (Int.tdiv (w64 ((x0.length : Int) + 1)) 2)) ≤ (x0.length : Int) then ((real_halves_real_Real_Plus.F k ((List.take (((w64 (Int.tdiv (w64 ((x0.length : Int) + 1)) 2))).toNat) x0).drop 0)).bind fun r39 =>
  (real_halves_real_Real_Plus.F k ((List.take x0.length x0).drop (((w64 (Int.tdiv (w64 ((x0.length : Int) + 1)) 2))).toNat))).bind fun r40 =>
  (real_Real_Plus.f r39 r40).bind fun r41 =>
  some r41)
  else none)
set_option maxRecDepth 100000 in
set_option maxHeartbeats 4000000 in
theorem real_halves_real_Real_Plus.callsF (k : Nat) : ∀ (M : List (Option Nat)) (w0 : World) (x0 : (List Nat)) (A0 : Option Addr) (n0 c0 : Nat) (e0 : n0 = x0.length) (hm0 : Mem [] M w0 [.sl Kd.float A0 c0 x0] w0) (r : Nat) (H0 : real_halves_real_Real_Plus.F k x0 = some r),
    Calls Try.prog 55 [.slice A0 n0 c0, .func (.func 56) #[] #[]].toArray w0 (fun x w' => ∃ v, x = .returned v ∧ ∃ br0, v = .float .f64 br0 ∧ FR br0 r ∧ Mem [] M w0 [] w') := by
  induction k with
  | zero => intro M w0 x0 A0 n0 c0 e0 hm0 r H0; exact absurd H0 (by simp [real_halves_real_Real_Plus.F])
  | succ k ih =>
  intro M w0 x0 A0 n0 c0 e0 hm0 r H0
  rw [real_halves_real_Real_Plus.F] at H0
  subst e0
  refine enter (n := 28) Try.func55 rfl rfl (by kernel_rfl) fun a0 (hf0 : Fr 28 a0 [(0, .slice A0 x0.length c0), (1, .func (.func 56) #[] #[])]) => ?_
  refine wp_seq ?_
  refine reg [] [0, 1] [(0, .slice A0 x0.length c0), (1, .func (.func 56) #[] #[])] [] hf0 (by kernel_rfl) trivial fun a21 hf22 => ?_
  refine thenN ?_
  refine wp_seq ?_
  refine wp_seq ?_
  rcases if_split H0 with ⟨c23, H0⟩ | ⟨c23, H0⟩
  · refine reg [.bool true] [0, 1, 8] [(0, .slice A0 x0.length c0), (1, .func (.func 56) #[] #[]), (8, .bool true)] [.is ((((x0.length : Int) : Int) == 1) = true)] hf22 (by kernel_rfl) ⟨(eqT c23), trivial⟩ fun a24 hf25 => ?_
    refine thenN ?_
    refine condT hf25 (by kernel_rfl) ?_
    refine wp_seq ?_
    obtain ⟨g26, H0⟩ := if_guard H0
    have q27 := (hm0.slAt 0 rfl).float 0 g26.1 g26.2
    obtain ⟨b28, hb28, kb28⟩ := q27.2
    refine reg [.float .f64 b28] [4] [(4, .float .f64 b28)] [.is (Option.isSome A0 = true), .is ((0 : Int) ≤ 0 ∧ 0 < (x0.length : Int)), .cell ((ad A0).add ((0 : Int).toNat * 1)) (.float .f64 b28)] hf25 (by kernel_rfl) ⟨q27.1, g26, kb28, trivial⟩ fun a29 hf30 => ?_
    have hm31 := hm0.sel [] _ rfl (by kernel_rfl)
    refine thenN ?_
    refine wp_ret ?_
    refine thenR ?_
    have hm32 : Mem [] M w0 [] w0 := hm31.sel [] _ rfl (by kernel_rfl)
    obtain rfl := Option.some.inj H0
    refine ret [] [.float .f64 b28] [] hf30 (by kernel_rfl) trivial ?_
    exact ⟨_, rfl, b28, rfl, hb28, hm32⟩
  refine reg [.bool false] [0, 1, 8] [(0, .slice A0 x0.length c0), (1, .func (.func 56) #[] #[]), (8, .bool false)] [.is ((((x0.length : Int) : Int) == 1) = false)] hf22 (by kernel_rfl) ⟨(eqF c23), trivial⟩ fun a34 hf35 => ?_
  refine thenN ?_
  refine condF hf35 (by kernel_rfl) ?_
  refine wp_skip ?_
  refine thenN ?_
  refine wp_seq ?_
  refine reg [] [0, 1, 5] [(0, .slice A0 x0.length c0), (1, .func (.func 56) #[] #[]), (5, .int .i64 (w64 (Int.tdiv (w64 ((x0.length : Int) + 1)) 2)))] [.is ((2 : Int) ≠ 0)] hf35 (by kernel_rfl) ⟨(okIs (by decide)), trivial⟩ fun a36 hf37 => ?_
  refine thenN ?_
  refine wp_seq ?_
  obtain ⟨g38, H0⟩ := if_guard H0
  obtain ⟨r39, hr39, H0⟩ := ob_split H0
  obtain ⟨r40, hr40, H0⟩ := ob_split H0
  obtain ⟨r41, hr41, H0⟩ := ob_split H0
  refine midReg (fun (a : Act) (w : World) => ∃ (b58 : Nat), Fr 28 a [(4, .float .f64 b58)] ∧ FR b58 r41 ∧ Mem [] M w0 [] w) ?_ ?_
  · refine anyG [] (by kernel_rfl) fun w66 hg67 => ?_
    have hm68 := hm0.still hg67
    have e95 : x0.length = x0.length := rfl
    have e95l : 0 ≤ ((w64 (Int.tdiv (w64 ((x0.length : Int) + 1)) 2))).toNat := by omega
    have e95h : ((w64 (Int.tdiv (w64 ((x0.length : Int) + 1)) 2))).toNat ≤ x0.length := by omega
    have hm96 := hm68.sub 0 rfl e95l (e95 ▸ e95h)
    have e97 : x0.length = x0.length := rfl
    have e97l : ((w64 (Int.tdiv (w64 ((x0.length : Int) + 1)) 2))).toNat ≤ x0.length := by omega
    have e97h : x0.length ≤ x0.length := by omega
    have hm98 := hm96.sub 1 rfl e97l (e97 ▸ e97h)
    refine quiet0 [0, 1, 2, 3, 4, 6, 7, 8, 9] [] [16, 19, 20, 24, 25] #[true, true, true, true, true, false, true, true, true, true, false, false, false] [(16, .func (.func 56) #[] #[]), (19, .slice (sub A0 c0 0 1) (((w64 (Int.tdiv (w64 ((x0.length : Int) + 1)) 2))).toNat - 0) (c0 - 0)), (20, .func (.func 56) #[] #[]), (24, .slice (sub A0 c0 (((w64 (Int.tdiv (w64 ((x0.length : Int) + 1)) 2))).toNat) 1) (x0.length - ((w64 (Int.tdiv (w64 ((x0.length : Int) + 1)) 2))).toNat) (c0 - ((w64 (Int.tdiv (w64 ((x0.length : Int) + 1)) 2))).toNat)), (25, .func (.func 56) #[] #[])] [.is (0 ≤ (w64 (Int.tdiv (w64 ((x0.length : Int) + 1)) 2)) ∧ (w64 (Int.tdiv (w64 ((x0.length : Int) + 1)) 2)) ≤ (c0 : Int)), .is (0 ≤ (w64 (Int.tdiv (w64 ((x0.length : Int) + 1)) 2)) ∧ (w64 (Int.tdiv (w64 ((x0.length : Int) + 1)) 2)) ≤ (x0.length : Int))] 4 rfl (by kernel_rfl) (fun _ _ _ _ _ h => nomatch h.1) hf37 (by kernel_rfl) ⟨(sub_cap rfl (hm68.cpAt 0 rfl) g38), g38, trivial⟩ fun a99 hf100 => ?_
    refine all1 5 (by kernel_rfl) ?_
    refine opOf hf100 rfl (by kernel_rfl) (aCall (fid := 55) (args := [.slice (sub A0 c0 0 1) (((w64 (Int.tdiv (w64 ((x0.length : Int) + 1)) 2))).toNat - 0) (c0 - 0), .func (.func 56) #[] #[]]) (d := 21) hf100 (by kernel_rfl) (by kernel_rfl) callable55 (ih _ _ ((List.take (((w64 (Int.tdiv (w64 ((x0.length : Int) + 1)) 2))).toNat) x0).drop 0) (sub A0 c0 0 1) (((w64 (Int.tdiv (w64 ((x0.length : Int) + 1)) 2))).toNat - 0) (c0 - 0) (len_sub e95 e95l e95h) (hm98.give [1] [.sl Kd.float (sub A0 c0 0 1) (c0 - 0) ((List.take (((w64 (Int.tdiv (w64 ((x0.length : Int) + 1)) 2))).toNat) x0).drop 0)] rfl rfl) r39 hr39) ?_)
    rintro _ w102 a103 ⟨b101, rfl, hb101, hk105⟩ hf104
    refine ⟨.inr (Gr.still hk105.cum.none), ?_⟩
    have hm106 := hm98.still hk105.cum.none
    refine all1 10 (by kernel_rfl) ?_
    refine opOf hf104 rfl (by kernel_rfl) (aCall (fid := 55) (args := [.slice (sub A0 c0 (((w64 (Int.tdiv (w64 ((x0.length : Int) + 1)) 2))).toNat) 1) (x0.length - ((w64 (Int.tdiv (w64 ((x0.length : Int) + 1)) 2))).toNat) (c0 - ((w64 (Int.tdiv (w64 ((x0.length : Int) + 1)) 2))).toNat), .func (.func 56) #[] #[]]) (d := 26) hf104 (by kernel_rfl) (by kernel_rfl) callable55 (ih _ _ ((List.take x0.length x0).drop (((w64 (Int.tdiv (w64 ((x0.length : Int) + 1)) 2))).toNat)) (sub A0 c0 (((w64 (Int.tdiv (w64 ((x0.length : Int) + 1)) 2))).toNat) 1) (x0.length - ((w64 (Int.tdiv (w64 ((x0.length : Int) + 1)) 2))).toNat) (c0 - ((w64 (Int.tdiv (w64 ((x0.length : Int) + 1)) 2))).toNat) (len_sub e97 e97l e97h) (hm106.give [0] [.sl Kd.float (sub A0 c0 (((w64 (Int.tdiv (w64 ((x0.length : Int) + 1)) 2))).toNat) 1) (c0 - ((w64 (Int.tdiv (w64 ((x0.length : Int) + 1)) 2))).toNat) ((List.take x0.length x0).drop (((w64 (Int.tdiv (w64 ((x0.length : Int) + 1)) 2))).toNat))] rfl rfl) r40 hr40) ?_)
    rintro _ w108 a109 ⟨b107, rfl, hb107, hk111⟩ hf110
    refine ⟨.inr (Gr.still hk111.cum.none), ?_⟩
    have hm112 := hm106.still hk111.cum.none
    refine all1 11 (by kernel_rfl) ?_
    refine opOf hf110 rfl (by kernel_rfl) (aCall (fid := 56) (args := [.float .f64 b101, .float .f64 b107]) (d := 27) hf110 (by kernel_rfl) (by kernel_rfl) callable56 (real_Real_Plus.calls _ _ r39 b101 hb101 r40 b107 hb107 (hm112.give [] [] rfl rfl) r41 hr41) ?_)
    rintro _ w114 a115 ⟨b113, rfl, hb113, hk117⟩ hf116
    refine ⟨.inr (Gr.still hk117.cum.none), ?_⟩
    have hm118 := hm112.still hk117.cum.none
    refine quiet0 [12] [] [4] #[true, true, true, true, true, true, true, true, true, true, true, true, true] [(4, .float .f64 b113)] [] 0 rfl (by kernel_rfl) (fun _ _ _ _ _ h => nomatch h.1) hf116 (by kernel_rfl) trivial fun a119 hf120 => ?_
    refine allDone (by kernel_rfl) ⟨rfl, b113, hf120.sel (l := [4]) (by kernel_rfl), hb113, hm118.sel [] _ rfl (by kernel_rfl)⟩
  rintro a121 w122 ⟨b58, hf123, hb58, hm124⟩
  refine thenN ?_
  refine wp_ret ?_
  have hm125 : Mem [] M w0 [] w122 := hm124.sel [] _ rfl (by kernel_rfl)
  obtain rfl := Option.some.inj H0
  refine ret [] [.float .f64 b58] [] hf123 (by kernel_rfl) trivial ?_
  exact ⟨_, rfl, b58, rfl, hb58, hm125⟩
noncomputable def real_halves_real_Real_Plus.f (x0 : (List Nat)) : Option Nat := recOf (fun k => real_halves_real_Real_Plus.F k x0)
theorem real_halves_real_Real_Plus.calls (M : List (Option Nat)) (w0 : World) (x0 : (List Nat)) (A0 : Option Addr) (n0 c0 : Nat) (e0 : n0 = x0.length) (hm0 : Mem [] M w0 [.sl Kd.float A0 c0 x0] w0) (r : Nat) (H0 : real_halves_real_Real_Plus.f x0 = some r) :
    Calls Try.prog 55 [.slice A0 n0 c0, .func (.func 56) #[] #[]].toArray w0 (fun x w' => ∃ v, x = .returned v ∧ ∃ br0, v = .float .f64 br0 ∧ FR br0 r ∧ Mem [] M w0 [] w') := by
  obtain ⟨k, hk⟩ := recOf_some H0
  exact real_halves_real_Real_Plus.callsF k M w0 x0 A0 n0 c0 e0 hm0 r hk

/-! ### backstitch/real.Fold -/
noncomputable def real_Fold.f (x0 : (List Nat)) : Option Nat :=
  if (x0.length : Int) = 0 then (some 0)
  else ((real_halves_real_Real_Plus.f x0).bind fun r33 =>
  some r33)
set_option maxRecDepth 100000 in
set_option maxHeartbeats 4000000 in
theorem real_Fold.calls (M : List (Option Nat)) (w0 : World) (x0 : (List Nat)) (A0 : Option Addr) (n0 c0 : Nat) (e0 : n0 = x0.length) (hm0 : Mem [] M w0 [.sl Kd.float A0 c0 x0] w0) (r : Nat) (H0 : real_Fold.f x0 = some r) :
    Calls Try.prog 35 [.slice A0 n0 c0].toArray w0 (fun x w' => ∃ v, x = .returned v ∧ ∃ br0, v = .float .f64 br0 ∧ FR br0 r ∧ Mem [] M w0 [] w') := by
  subst e0
  unfold real_Fold.f at H0
  refine enter (n := 8) Try.func35 rfl rfl (by kernel_rfl) fun a0 (hf0 : Fr 8 a0 [(0, .slice A0 x0.length c0)]) => ?_
  refine wp_seq ?_
  refine reg [] [0] [(0, .slice A0 x0.length c0)] [] hf0 (by kernel_rfl) trivial fun a21 hf22 => ?_
  refine thenN ?_
  refine wp_seq ?_
  refine wp_seq ?_
  rcases if_split H0 with ⟨c23, H0⟩ | ⟨c23, H0⟩
  · refine reg [.bool true] [0, 5] [(0, .slice A0 x0.length c0), (5, .bool true)] [.is ((((x0.length : Int) : Int) == 0) = true)] hf22 (by kernel_rfl) ⟨(eqT c23), trivial⟩ fun a24 hf25 => ?_
    refine thenN ?_
    refine condT hf25 (by kernel_rfl) ?_
    refine wp_seq ?_
    refine reg [] [2] [(2, .float .f64 0)] [] hf25 (by kernel_rfl) trivial fun a26 hf27 => ?_
    have hm28 := hm0.sel [] _ rfl (by kernel_rfl)
    refine thenN ?_
    refine wp_ret ?_
    refine thenR ?_
    have hm29 : Mem [] M w0 [] w0 := hm28.sel [] _ rfl (by kernel_rfl)
    obtain rfl := Option.some.inj H0
    refine ret [] [.float .f64 0] [] hf27 (by kernel_rfl) trivial ?_
    exact ⟨_, rfl, 0, rfl, (FR.lit (by kernel_rfl) (by kernel_rfl)), hm29⟩
  refine reg [.bool false] [0, 5] [(0, .slice A0 x0.length c0), (5, .bool false)] [.is ((((x0.length : Int) : Int) == 0) = false)] hf22 (by kernel_rfl) ⟨(eqF c23), trivial⟩ fun a31 hf32 => ?_
  refine thenN ?_
  refine condF hf32 (by kernel_rfl) ?_
  refine wp_skip ?_
  refine thenN ?_
  refine wp_seq ?_
  obtain ⟨r33, hr33, H0⟩ := ob_split H0
  refine inReg ?_
  refine go 1 [] [6] [(6, .slice A0 x0.length c0)] [] hf32 (by kernel_rfl) trivial fun a34 hf35 => ?_
  refine listOf hf35 rfl (by kernel_rfl) (aCall (fid := 55) (args := [.slice A0 x0.length c0, .func (.func 56) #[] #[]]) (d := 7) hf35 (by kernel_rfl) (by kernel_rfl) callable55 (real_halves_real_Real_Plus.calls _ _ x0 A0 x0.length c0 rfl (hm0.give [0] [.sl Kd.float A0 c0 x0] rfl rfl) r33 hr33) ?_)
  rintro _ w37 a38 ⟨b36, rfl, hb36, hk40⟩ hf39
  have hm41 := hm0.still hk40.cum.none
  refine go 1 [] [2] [(2, .float .f64 b36)] [] hf39 (by kernel_rfl) trivial fun a42 hf43 => ?_
  refine endL rfl ?_
  have hm44 := hm41.sel [] _ rfl (by kernel_rfl)
  refine thenN ?_
  refine wp_ret ?_
  have hm45 : Mem [] M w0 [] w37 := hm44.sel [] _ rfl (by kernel_rfl)
  obtain rfl := Option.some.inj H0
  refine ret [] [.float .f64 b36] [] hf43 (by kernel_rfl) trivial ?_
  exact ⟨_, rfl, b36, rfl, hb36, hm45⟩
end Go.Proofs.Ytkcgiolledmbnac
