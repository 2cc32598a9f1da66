/- Printed by gen.py. -/
import Derived.Test.YtkcgiolledmbnacF0
import Derived.Test.YtkcgiolledmbnacF2
import Derived.Test.YtkcgiolledmbnacF3
import Derived.Test.YtkcgiolledmbnacF5
namespace Go.Proofs.Ytkcgiolledmbnac
open Go Go.RowKit
set_option linter.unusedSimpArgs false
set_option linter.unusedVariables false
set_option linter.unnecessarySimpa false
/-! ### backstitch/kernel.Spread -/
noncomputable def kernel_Spread.l0 (r57 : (Tensor × Int)) (x1 : (List Int)) (x0 : Tensor) (s87 : (Int × (List Nat))) : Step (Int × (List Nat)) (Int × (List Nat)) :=
  if s87.1 < (r57.1.Data.length : Int) then (bindS (shape_Place.f x1 s87.1) fun r99 =>
  bindS (kernel_from.f x0.Shape r99) fun r100 =>
  if 0 ≤ r100 ∧ r100 < (x0.Data.length : Int) then (if 0 ≤ s87.1 ∧ s87.1 < (s87.2.length : Int) then (.next ((w64 (s87.1 + 1)), (put s87.2 s87.1 (rd x0.Data r100))))
  else .bad)
  else .bad)
  else (.done (s87.1, s87.2))
noncomputable def kernel_Spread.f (x0 : Tensor) (x1 : (List Int)) : Option (Tensor × Int) :=
  (tensor_May.f x0).bind fun r37 =>
  if r37 = true then ((shape_Into.f x0.Shape x1).bind fun r39 =>
  if r39 = true then ((tensor_New.f x1 0).bind fun r57 =>
  (loop (kernel_Spread.l0 r57 x1 x0) (0, r57.1.Data)).bind fun r88 =>
  some ((⟨r57.1.Shape, r88.2⟩ : Tensor), 0))
  else (some ((⟨([] : (List Int)), ([] : (List Nat))⟩ : Tensor), 2)))
  else (some ((⟨([] : (List Int)), ([] : (List Nat))⟩ : Tensor), 2))
set_option maxRecDepth 100000 in
set_option maxHeartbeats 4000000 in
theorem kernel_Spread.calls (M : List (Option Nat)) (w0 : World) (x0 : Tensor) (A0_0 : Option Addr) (n0_0 c0_0 : Nat) (e0_0 : n0_0 = x0.Shape.length) (A0_1 : Option Addr) (n0_1 c0_1 : Nat) (e0_1 : n0_1 = x0.Data.length) (x1 : (List Int)) (A1 : Option Addr) (n1 c1 : Nat) (e1 : n1 = x1.length) (hm0 : Mem [] M w0 [.sl (Kd.int .i64) A0_0 c0_0 x0.Shape, .sl Kd.float A0_1 c0_1 x0.Data, .sl (Kd.int .i64) A1 c1 x1] w0) (r : (Tensor × Int)) (H0 : kernel_Spread.f x0 x1 = some r) :
    Calls Try.prog 16 [.agg #[.slice A0_0 n0_0 c0_0, .slice A0_1 n0_1 c0_1], .slice A1 n1 c1].toArray w0 (fun x w' => ∃ v, x = .returned v ∧ ∃ Ar0_0 cr0_0 Ar0_1 cr0_1, v = .tuple #[.agg #[.slice Ar0_0 r.1.Shape.length cr0_0, .slice Ar0_1 r.1.Data.length cr0_1], .int .i64 r.2] ∧ Mem [] M w0 [.ow (Kd.int .i64) 3 Ar0_0 cr0_0 r.1.Shape, .ow Kd.float 26 Ar0_1 cr0_1 r.1.Data] w') := by
  subst e0_0
  subst e0_1
  subst e1
  unfold kernel_Spread.f at H0
  refine enter (n := 47) Try.func16 rfl rfl (by kernel_rfl) fun a0 (hf0 : Fr 47 a0 [(0, .agg #[.slice A0_0 x0.Shape.length c0_0, .slice A0_1 x0.Data.length c0_1]), (1, .slice A1 x1.length c1)]) => ?_
  refine wp_seq ?_
  refine inReg ?_
  refine listOf hf0 rfl (by kernel_rfl) (aNew (cs := [.slice A0_0 x0.Shape.length c0_0, .slice A0_1 x0.Data.length c0_1]) (T := 25) (d := 2) hf0 (by kernel_rfl) (by kernel_rfl) ?_)
  intro b21 w22 a23 hbb21 hx25 hg26 hf24
  have hm27 := hm0.box hbb21 hx25 hg26
  refine listOf hf24 rfl (by kernel_rfl) (aNew (cs := [.slice none 0 0, .slice none 0 0]) (T := 25) (d := 4) hf24 (by kernel_rfl) (by kernel_rfl) ?_)
  intro b28 w29 a30 hbb28 hx32 hg33 hf31
  have hm34 := hm27.box hbb28 hx32 hg33
  refine go 1 [] [1, 2, 4] [(1, .slice A1 x1.length c1), (2, .pointer (some ⟨b21, 0, none⟩)), (4, .pointer (some ⟨b28, 0, none⟩))] [] hf31 (by kernel_rfl) trivial fun a35 hf36 => ?_
  refine endL rfl ?_
  refine thenN ?_
  refine wp_seq ?_
  refine wp_seq ?_
  obtain ⟨r37, hr37, H0⟩ := ob_split H0
  rcases ifb_split H0 with ⟨c38, H0⟩ | ⟨c38, H0⟩
  rotate_left
  · refine inReg ?_
    refine go 1 [.agg #[.slice A0_0 x0.Shape.length c0_0, .slice A0_1 x0.Data.length c0_1]] [1, 2, 4, 9] [(1, .slice A1 x1.length c1), (2, .pointer (some ⟨b21, 0, none⟩)), (4, .pointer (some ⟨b28, 0, none⟩)), (9, .agg #[.slice A0_0 x0.Shape.length c0_0, .slice A0_1 x0.Data.length c0_1])] [.cell ⟨b21, 0, none⟩ (.slice A0_0 x0.Shape.length c0_0), .cell ⟨b21, 1, none⟩ (.slice A0_1 x0.Data.length c0_1)] hf36 (by kernel_rfl) ⟨(hm34.cell 1 rfl rfl), (hm34.cell 1 rfl rfl), trivial⟩ fun a232 hf233 => ?_
    refine listOf hf233 rfl (by kernel_rfl) (aCall (fid := 25) (args := [.agg #[.slice A0_0 x0.Shape.length c0_0, .slice A0_1 x0.Data.length c0_1]]) (d := 10) hf233 (by kernel_rfl) (by kernel_rfl) callable25 (tensor_May.calls _ _ x0 A0_0 x0.Shape.length c0_0 rfl A0_1 x0.Data.length c0_1 rfl (hm34.give [2, 3] [.sl (Kd.int .i64) A0_0 c0_0 x0.Shape, .sl Kd.float A0_1 c0_1 x0.Data] rfl rfl) r37 hr37) ?_)
    rintro _ w234 a235 ⟨rfl, hk237⟩ hf236
    have hm238 := hm34.still hk237.cum.none
    rw [c38] at hf236
    refine go 8 [] [1, 2, 4, 18] [(1, .slice A1 x1.length c1), (2, .pointer (some ⟨b21, 0, none⟩)), (4, .pointer (some ⟨b28, 0, none⟩)), (18, .bool true)] [] hf236 (by kernel_rfl) trivial fun a239 hf240 => ?_
    refine endL rfl ?_
    refine thenN ?_
    refine condT hf240 (by kernel_rfl) ?_
    refine wp_seq ?_
    refine inReg ?_
    refine go 1 [] [4, 19] [(4, .pointer (some ⟨b28, 0, none⟩)), (19, .agg #[.slice none 0 0, .slice none 0 0])] [] hf240 (by kernel_rfl) trivial fun a241 hf242 => ?_
    refine listOf hf242 rfl (by kernel_rfl) (aStoreB (b := b28) (j := 0) (T := 25) (cs := [.slice none 0 0, .slice none 0 0]) (us := [.slice none 0 0, .slice none 0 0]) (cs' := [.slice none 0 0, .slice none 0 0]) hf242 (by kernel_rfl) (hm238.bxAt 0 rfl) (by kernel_rfl) (by kernel_rfl) (by kernel_rfl) ?_)
    intro w243 hx244 hg245
    have hm246 := hm238.setBox 0 _ rfl rfl hx244 hg245
    refine go 1 [] [4, 5] [(4, .pointer (some ⟨b28, 0, none⟩)), (5, .int .i64 2)] [] hf242 (by kernel_rfl) trivial fun a247 hf248 => ?_
    refine endL rfl ?_
    have hm249 := hm246.sel [0] _ rfl (by kernel_rfl)
    refine thenN ?_
    refine wp_ret ?_
    refine thenR ?_
    have hm250 := hm249.nilOw (Kd.int .i64) 3
    have hm251 := hm250.nilOw Kd.float 26
    have hm252 : Mem [] M w0 [.ow (Kd.int .i64) 3 none 0 ([] : (List Int)), .ow Kd.float 26 none 0 ([] : (List Nat))] w243 := hm251.sel [1, 0] _ rfl (by kernel_rfl)
    obtain rfl := Option.some.inj H0
    refine ret [.agg #[.slice none 0 0, .slice none 0 0]] [.agg #[.slice none 0 0, .slice none 0 0], .int .i64 2] [.cell ⟨b28, 0, none⟩ (.slice none 0 0), .cell ⟨b28, 1, none⟩ (.slice none 0 0)] hf248 (by kernel_rfl) ⟨(hm249.cell 0 rfl rfl), (hm249.cell 0 rfl rfl), trivial⟩ ?_
    exact ⟨_, rfl, none, 0, none, 0, rfl, hm252⟩
  obtain ⟨r39, hr39, H0⟩ := ob_split H0
  rcases ifb_split H0 with ⟨c40, H0⟩ | ⟨c40, H0⟩
  rotate_left
  · refine inReg ?_
    refine go 1 [.agg #[.slice A0_0 x0.Shape.length c0_0, .slice A0_1 x0.Data.length c0_1]] [1, 2, 4, 9] [(1, .slice A1 x1.length c1), (2, .pointer (some ⟨b21, 0, none⟩)), (4, .pointer (some ⟨b28, 0, none⟩)), (9, .agg #[.slice A0_0 x0.Shape.length c0_0, .slice A0_1 x0.Data.length c0_1])] [.cell ⟨b21, 0, none⟩ (.slice A0_0 x0.Shape.length c0_0), .cell ⟨b21, 1, none⟩ (.slice A0_1 x0.Data.length c0_1)] hf36 (by kernel_rfl) ⟨(hm34.cell 1 rfl rfl), (hm34.cell 1 rfl rfl), trivial⟩ fun a203 hf204 => ?_
    refine listOf hf204 rfl (by kernel_rfl) (aCall (fid := 25) (args := [.agg #[.slice A0_0 x0.Shape.length c0_0, .slice A0_1 x0.Data.length c0_1]]) (d := 10) hf204 (by kernel_rfl) (by kernel_rfl) callable25 (tensor_May.calls _ _ x0 A0_0 x0.Shape.length c0_0 rfl A0_1 x0.Data.length c0_1 rfl (hm34.give [2, 3] [.sl (Kd.int .i64) A0_0 c0_0 x0.Shape, .sl Kd.float A0_1 c0_1 x0.Data] rfl rfl) r37 hr37) ?_)
    rintro _ w205 a206 ⟨rfl, hk208⟩ hf207
    have hm209 := hm34.still hk208.cum.none
    rw [c38] at hf207
    refine go 5 [.slice A0_0 x0.Shape.length c0_0] [1, 2, 4, 12, 14, 15] [(1, .slice A1 x1.length c1), (2, .pointer (some ⟨b21, 0, none⟩)), (4, .pointer (some ⟨b28, 0, none⟩)), (12, .bool false), (14, .slice A0_0 x0.Shape.length c0_0), (15, .slice A1 x1.length c1)] [.cell ⟨b21, 0, none⟩ (.slice A0_0 x0.Shape.length c0_0)] hf207 (by kernel_rfl) ⟨(hm209.cell 1 rfl rfl), trivial⟩ fun a210 hf211 => ?_
    refine listOf hf211 rfl (by kernel_rfl) (aCall (fid := 32) (args := [.slice A0_0 x0.Shape.length c0_0, .slice A1 x1.length c1]) (d := 16) hf211 (by kernel_rfl) (by kernel_rfl) callable32 (shape_Into.calls _ _ x0.Shape A0_0 x0.Shape.length c0_0 rfl x1 A1 x1.length c1 rfl (hm209.give [2, 4] [.sl (Kd.int .i64) A0_0 c0_0 x0.Shape, .sl (Kd.int .i64) A1 c1 x1] rfl rfl) r39 hr39) ?_)
    rintro _ w212 a213 ⟨rfl, hk215⟩ hf214
    have hm216 := hm209.still hk215.cum.none
    rw [c40] at hf214
    refine go 2 [] [1, 2, 4, 18] [(1, .slice A1 x1.length c1), (2, .pointer (some ⟨b21, 0, none⟩)), (4, .pointer (some ⟨b28, 0, none⟩)), (18, .bool true)] [] hf214 (by kernel_rfl) trivial fun a217 hf218 => ?_
    refine endL rfl ?_
    refine thenN ?_
    refine condT hf218 (by kernel_rfl) ?_
    refine wp_seq ?_
    refine inReg ?_
    refine go 1 [] [4, 19] [(4, .pointer (some ⟨b28, 0, none⟩)), (19, .agg #[.slice none 0 0, .slice none 0 0])] [] hf218 (by kernel_rfl) trivial fun a219 hf220 => ?_
    refine listOf hf220 rfl (by kernel_rfl) (aStoreB (b := b28) (j := 0) (T := 25) (cs := [.slice none 0 0, .slice none 0 0]) (us := [.slice none 0 0, .slice none 0 0]) (cs' := [.slice none 0 0, .slice none 0 0]) hf220 (by kernel_rfl) (hm216.bxAt 0 rfl) (by kernel_rfl) (by kernel_rfl) (by kernel_rfl) ?_)
    intro w221 hx222 hg223
    have hm224 := hm216.setBox 0 _ rfl rfl hx222 hg223
    refine go 1 [] [4, 5] [(4, .pointer (some ⟨b28, 0, none⟩)), (5, .int .i64 2)] [] hf220 (by kernel_rfl) trivial fun a225 hf226 => ?_
    refine endL rfl ?_
    have hm227 := hm224.sel [0] _ rfl (by kernel_rfl)
    refine thenN ?_
    refine wp_ret ?_
    refine thenR ?_
    have hm228 := hm227.nilOw (Kd.int .i64) 3
    have hm229 := hm228.nilOw Kd.float 26
    have hm230 : Mem [] M w0 [.ow (Kd.int .i64) 3 none 0 ([] : (List Int)), .ow Kd.float 26 none 0 ([] : (List Nat))] w221 := hm229.sel [1, 0] _ rfl (by kernel_rfl)
    obtain rfl := Option.some.inj H0
    refine ret [.agg #[.slice none 0 0, .slice none 0 0]] [.agg #[.slice none 0 0, .slice none 0 0], .int .i64 2] [.cell ⟨b28, 0, none⟩ (.slice none 0 0), .cell ⟨b28, 1, none⟩ (.slice none 0 0)] hf226 (by kernel_rfl) ⟨(hm227.cell 0 rfl rfl), (hm227.cell 0 rfl rfl), trivial⟩ ?_
    exact ⟨_, rfl, none, 0, none, 0, rfl, hm230⟩
  refine inReg ?_
  refine go 1 [.agg #[.slice A0_0 x0.Shape.length c0_0, .slice A0_1 x0.Data.length c0_1]] [1, 2, 4, 9] [(1, .slice A1 x1.length c1), (2, .pointer (some ⟨b21, 0, none⟩)), (4, .pointer (some ⟨b28, 0, none⟩)), (9, .agg #[.slice A0_0 x0.Shape.length c0_0, .slice A0_1 x0.Data.length c0_1])] [.cell ⟨b21, 0, none⟩ (.slice A0_0 x0.Shape.length c0_0), .cell ⟨b21, 1, none⟩ (.slice A0_1 x0.Data.length c0_1)] hf36 (by kernel_rfl) ⟨(hm34.cell 1 rfl rfl), (hm34.cell 1 rfl rfl), trivial⟩ fun a41 hf42 => ?_
  refine listOf hf42 rfl (by kernel_rfl) (aCall (fid := 25) (args := [.agg #[.slice A0_0 x0.Shape.length c0_0, .slice A0_1 x0.Data.length c0_1]]) (d := 10) hf42 (by kernel_rfl) (by kernel_rfl) callable25 (tensor_May.calls _ _ x0 A0_0 x0.Shape.length c0_0 rfl A0_1 x0.Data.length c0_1 rfl (hm34.give [2, 3] [.sl (Kd.int .i64) A0_0 c0_0 x0.Shape, .sl Kd.float A0_1 c0_1 x0.Data] rfl rfl) r37 hr37) ?_)
  rintro _ w43 a44 ⟨rfl, hk46⟩ hf45
  have hm47 := hm34.still hk46.cum.none
  rw [c38] at hf45
  refine go 5 [.slice A0_0 x0.Shape.length c0_0] [1, 2, 4, 12, 14, 15] [(1, .slice A1 x1.length c1), (2, .pointer (some ⟨b21, 0, none⟩)), (4, .pointer (some ⟨b28, 0, none⟩)), (12, .bool false), (14, .slice A0_0 x0.Shape.length c0_0), (15, .slice A1 x1.length c1)] [.cell ⟨b21, 0, none⟩ (.slice A0_0 x0.Shape.length c0_0)] hf45 (by kernel_rfl) ⟨(hm47.cell 1 rfl rfl), trivial⟩ fun a48 hf49 => ?_
  refine listOf hf49 rfl (by kernel_rfl) (aCall (fid := 32) (args := [.slice A0_0 x0.Shape.length c0_0, .slice A1 x1.length c1]) (d := 16) hf49 (by kernel_rfl) (by kernel_rfl) callable32 (shape_Into.calls _ _ x0.Shape A0_0 x0.Shape.length c0_0 rfl x1 A1 x1.length c1 rfl (hm47.give [2, 4] [.sl (Kd.int .i64) A0_0 c0_0 x0.Shape, .sl (Kd.int .i64) A1 c1 x1] rfl rfl) r39 hr39) ?_)
  rintro _ w50 a51 ⟨rfl, hk53⟩ hf52
  have hm54 := hm47.still hk53.cum.none
  rw [c40] at hf52
  refine go 2 [] [1, 2, 4, 18] [(1, .slice A1 x1.length c1), (2, .pointer (some ⟨b21, 0, none⟩)), (4, .pointer (some ⟨b28, 0, none⟩)), (18, .bool false)] [] hf52 (by kernel_rfl) trivial fun a55 hf56 => ?_
  refine endL rfl ?_
  refine thenN ?_
  refine condF hf56 (by kernel_rfl) ?_
  refine wp_skip ?_
  refine thenN ?_
  refine wp_seq ?_
  obtain ⟨r57, hr57, H0⟩ := ob_split H0
  refine inReg ?_
  refine go 1 [] [1, 2, 4, 21] [(1, .slice A1 x1.length c1), (2, .pointer (some ⟨b21, 0, none⟩)), (4, .pointer (some ⟨b28, 0, none⟩)), (21, .slice A1 x1.length c1)] [] hf56 (by kernel_rfl) trivial fun a58 hf59 => ?_
  refine listOf hf59 rfl (by kernel_rfl) (aCall (fid := 23) (args := [.slice A1 x1.length c1, .float .f64 0]) (d := 22) hf59 (by kernel_rfl) (by kernel_rfl) callable23 (tensor_New.calls _ _ x1 A1 x1.length c1 rfl 0 0 ((FR.lit (by kernel_rfl) (by kernel_rfl))) (hm54.give [4] [.sl (Kd.int .i64) A1 c1 x1] rfl rfl) r57 hr57) ?_)
  rintro _ w65 a66 ⟨A60, c61, A62, c63, rfl, hk68⟩ hf67
  have hm69 := hm54.back hk68
  refine go 3 [] [1, 2, 4, 23, 24] [(1, .slice A1 x1.length c1), (2, .pointer (some ⟨b21, 0, none⟩)), (4, .pointer (some ⟨b28, 0, none⟩)), (23, .agg #[.slice A60 r57.1.Shape.length c61, .slice A62 r57.1.Data.length c63]), (24, .int .i64 r57.2)] [] hf67 (by kernel_rfl) trivial fun a70 hf71 => ?_
  refine listOf hf71 rfl (by kernel_rfl) (aNew (cs := [.slice none 0 0, .slice none 0 0]) (T := 25) (d := 6) hf71 (by kernel_rfl) (by kernel_rfl) ?_)
  intro b72 w73 a74 hbb72 hx76 hg77 hf75
  have hm78 := hm69.box hbb72 hx76 hg77
  refine listOf hf75 rfl (by kernel_rfl) (aStoreB (b := b72) (j := 0) (T := 25) (cs := [.slice none 0 0, .slice none 0 0]) (us := [.slice A60 r57.1.Shape.length c61, .slice A62 r57.1.Data.length c63]) (cs' := [.slice A60 r57.1.Shape.length c61, .slice A62 r57.1.Data.length c63]) hf75 (by kernel_rfl) (hm78.bxAt 0 rfl) (by kernel_rfl) (by kernel_rfl) (by kernel_rfl) ?_)
  intro w79 hx80 hg81
  have hm82 := hm78.setBox 0 _ rfl rfl hx80 hg81
  refine go 1 [] [1, 2, 4, 6] [(1, .slice A1 x1.length c1), (2, .pointer (some ⟨b21, 0, none⟩)), (4, .pointer (some ⟨b28, 0, none⟩)), (6, .pointer (some ⟨b72, 0, none⟩))] [] hf75 (by kernel_rfl) trivial fun a83 hf84 => ?_
  refine endL rfl ?_
  refine thenN ?_
  refine wp_seq ?_
  refine wp_seq ?_
  refine reg [.slice A62 r57.1.Data.length c63] [1, 2, 4, 6, 27, 28] [(1, .slice A1 x1.length c1), (2, .pointer (some ⟨b21, 0, none⟩)), (4, .pointer (some ⟨b28, 0, none⟩)), (6, .pointer (some ⟨b72, 0, none⟩)), (27, .int .i64 (r57.1.Data.length : Int)), (28, .int .i64 0)] [.cell ⟨b72, 1, none⟩ (.slice A62 r57.1.Data.length c63)] hf84 (by kernel_rfl) ⟨(hm82.cell 0 rfl rfl), trivial⟩ fun a85 hf86 => ?_
  refine thenN ?_
  obtain ⟨r88, hr88, H0⟩ := ob_split H0
  refine wpBlock (Mid := fun (a : Act) (w : World) => Fr 47 a [(1, .slice A1 x1.length c1), (2, .pointer (some ⟨b21, 0, none⟩)), (4, .pointer (some ⟨b28, 0, none⟩)), (6, .pointer (some ⟨b72, 0, none⟩)), (27, .int .i64 (r57.1.Data.length : Int)), (28, .int .i64 r88.1)] ∧ Mem [] M w0 [.bx b72 [.slice A60 r57.1.Shape.length c61, .slice A62 r88.2.length c63] 25, .ow (Kd.int .i64) 3 A60 c61 r57.1.Shape, .ow Kd.float 26 A62 c63 r88.2, .bx b28 [.slice none 0 0, .slice none 0 0] 25, .bx b21 [.slice A0_0 x0.Shape.length c0_0, .slice A0_1 x0.Data.length c0_1] 25, .sl (Kd.int .i64) A0_0 c0_0 x0.Shape, .sl Kd.float A0_1 c0_1 x0.Data, .sl (Kd.int .i64) A1 c1 x1] w) ?_ ?_
  · refine wpLoop (kernel_Spread.l0 r57 x1 x0) r88 (fun (s87 : (Int × (List Nat))) (a : Act) (w : World) => Fr 47 a [(1, .slice A1 x1.length c1), (2, .pointer (some ⟨b21, 0, none⟩)), (4, .pointer (some ⟨b28, 0, none⟩)), (6, .pointer (some ⟨b72, 0, none⟩)), (27, .int .i64 (r57.1.Data.length : Int)), (28, .int .i64 s87.1)] ∧ Mem [] M w0 [.bx b72 [.slice A60 r57.1.Shape.length c61, .slice A62 s87.2.length c63] 25, .ow (Kd.int .i64) 3 A60 c61 r57.1.Shape, .ow Kd.float 26 A62 c63 s87.2, .bx b28 [.slice none 0 0, .slice none 0 0] 25, .bx b21 [.slice A0_0 x0.Shape.length c0_0, .slice A0_1 x0.Data.length c0_1] 25, .sl (Kd.int .i64) A0_0 c0_0 x0.Shape, .sl Kd.float A0_1 c0_1 x0.Data, .sl (Kd.int .i64) A1 c1 x1] w) (0, r57.1.Data) hr88 ⟨hf86.sel (l := [1, 2, 4, 6, 27, 28]) (by kernel_rfl), hm82.sel [0, 1, 2, 3, 4, 5, 6, 7] _ rfl (by kernel_rfl)⟩ ?_
    rintro g89 s87 a90 w91 H1 ⟨hf92, hm93⟩
    unfold kernel_Spread.l0 at H1
    refine wp_seq ?_
    rcases ifS_split H1 with ⟨c94, H1⟩ | ⟨c94, H1⟩
    rotate_left
    · refine reg [.bool false] [1, 2, 4, 6, 27, 28, 29] [(1, .slice A1 x1.length c1), (2, .pointer (some ⟨b21, 0, none⟩)), (4, .pointer (some ⟨b28, 0, none⟩)), (6, .pointer (some ⟨b72, 0, none⟩)), (27, .int .i64 (r57.1.Data.length : Int)), (28, .int .i64 s87.1), (29, .bool false)] [.is (decide (s87.1 < (r57.1.Data.length : Int)) = false)] hf92 (by kernel_rfl) ⟨(decide_eq_false c94), trivial⟩ fun a186 hf187 => ?_
      refine thenN ?_
      refine wp_seq ?_
      refine condF hf187 (by kernel_rfl) ?_
      refine wp_exit ?_
      refine thenE ?_
      refine thenE ?_
      obtain rfl := Option.some.inj H1
      exact .inl ⟨rfl, hf187.sel (l := [1, 2, 4, 6, 27, 28]) (by kernel_rfl), hm93.sel [0, 1, 2, 3, 4, 5, 6, 7] _ rfl (by kernel_rfl)⟩
    refine reg [.bool true] [1, 2, 4, 6, 27, 28, 29] [(1, .slice A1 x1.length c1), (2, .pointer (some ⟨b21, 0, none⟩)), (4, .pointer (some ⟨b28, 0, none⟩)), (6, .pointer (some ⟨b72, 0, none⟩)), (27, .int .i64 (r57.1.Data.length : Int)), (28, .int .i64 s87.1), (29, .bool true)] [.is (decide (s87.1 < (r57.1.Data.length : Int)) = true)] hf92 (by kernel_rfl) ⟨(decide_eq_true c94), trivial⟩ fun a95 hf96 => ?_
    refine thenN ?_
    refine wp_seq ?_
    refine condT hf96 (by kernel_rfl) ?_
    refine wp_skip ?_
    refine thenN ?_
    refine wp_seq ?_
    refine wp_block ?_
    refine wp_seq ?_
    refine reg [] [1, 2, 4, 6, 8, 27, 28] [(1, .slice A1 x1.length c1), (2, .pointer (some ⟨b21, 0, none⟩)), (4, .pointer (some ⟨b28, 0, none⟩)), (6, .pointer (some ⟨b72, 0, none⟩)), (8, .int .i64 s87.1), (27, .int .i64 (r57.1.Data.length : Int)), (28, .int .i64 s87.1)] [] hf96 (by kernel_rfl) trivial fun a97 hf98 => ?_
    refine thenN ?_
    obtain ⟨r99, hr99, H1⟩ := obS_split H1
    obtain ⟨r100, hr100, H1⟩ := obS_split H1
    obtain ⟨g101, H1⟩ := ifS_guard H1
    obtain ⟨g102, H1⟩ := ifS_guard H1
    refine midReg (fun (a : Act) (w : World) => Fr 47 a [(1, .slice A1 x1.length c1), (2, .pointer (some ⟨b21, 0, none⟩)), (4, .pointer (some ⟨b28, 0, none⟩)), (6, .pointer (some ⟨b72, 0, none⟩)), (27, .int .i64 (r57.1.Data.length : Int)), (28, .int .i64 s87.1)] ∧ Mem [] M w0 [.bx b72 [.slice A60 r57.1.Shape.length c61, .slice A62 s87.2.length c63] 25, .ow (Kd.int .i64) 3 A60 c61 r57.1.Shape, .ow Kd.float 26 A62 c63 (put s87.2 s87.1 (rd x0.Data r100)), .bx b28 [.slice none 0 0, .slice none 0 0] 25, .bx b21 [.slice A0_0 x0.Shape.length c0_0, .slice A0_1 x0.Data.length c0_1] 25, .sl (Kd.int .i64) A0_0 c0_0 x0.Shape, .sl Kd.float A0_1 c0_1 x0.Data, .sl (Kd.int .i64) A1 c1 x1] w) ?_ ?_
    · refine anyG [14] (by kernel_rfl) fun w125 hg126 => ?_
      have hm127 := hm93.still hg126
      refine quiet0 [0, 1, 2, 3, 4, 5, 6, 7, 8] [.slice A62 s87.2.length c63, .slice A0_1 x0.Data.length c0_1, .slice A0_0 x0.Shape.length c0_0] [1, 2, 4, 6, 27, 28, 32, 33, 35, 37, 38, 39] #[true, true, true, true, true, true, true, true, true, false, false, false, false, false, false] [(1, .slice A1 x1.length c1), (2, .pointer (some ⟨b21, 0, none⟩)), (4, .pointer (some ⟨b28, 0, none⟩)), (6, .pointer (some ⟨b72, 0, none⟩)), (27, .int .i64 (r57.1.Data.length : Int)), (28, .int .i64 s87.1), (32, .slice A62 s87.2.length c63), (33, .int .i64 s87.1), (35, .slice A0_1 x0.Data.length c0_1), (37, .slice A0_0 x0.Shape.length c0_0), (38, .slice A1 x1.length c1), (39, .int .i64 s87.1)] [.cell ⟨b72, 1, none⟩ (.slice A62 s87.2.length c63), .cell ⟨b21, 1, none⟩ (.slice A0_1 x0.Data.length c0_1), .cell ⟨b21, 0, none⟩ (.slice A0_0 x0.Shape.length c0_0)] 6 rfl (by kernel_rfl) (fun _ _ _ _ _ h => nomatch h.1) hf98 (by kernel_rfl) ⟨(hm127.cell 0 rfl rfl), (hm127.cell 4 rfl rfl), (hm127.cell 4 rfl rfl), trivial⟩ fun a153 hf154 => ?_
      refine all1 9 (by kernel_rfl) ?_
      refine opOf hf154 rfl (by kernel_rfl) (aCall (fid := 34) (args := [.slice A1 x1.length c1, .int .i64 s87.1]) (d := 40) hf154 (by kernel_rfl) (by kernel_rfl) callable34 (shape_Place.calls _ _ x1 A1 x1.length c1 rfl s87.1 (hm127.give [7] [.sl (Kd.int .i64) A1 c1 x1] rfl rfl) r99 hr99) ?_)
      rintro _ w157 a158 ⟨A155, c156, rfl, hk160⟩ hf159
      refine ⟨.inr (Gr.still hk160.cum.none), ?_⟩
      have hm161 := hm127.back hk160
      have hm162 := hm161.seal 0 _ rfl rfl
      refine all1 10 (by kernel_rfl) ?_
      refine opOf hf159 rfl (by kernel_rfl) (aCall (fid := 33) (args := [.slice A0_0 x0.Shape.length c0_0, .slice A155 r99.length c156]) (d := 41) hf159 (by kernel_rfl) (by kernel_rfl) callable33 (kernel_from.calls _ _ x0.Shape A0_0 x0.Shape.length c0_0 rfl r99 A155 r99.length c156 rfl (hm162.give [6, 0] [.sl (Kd.int .i64) A0_0 c0_0 x0.Shape, .sl (Kd.int .i64) A155 c156 r99] rfl rfl) r100 hr100) ?_)
      rintro _ w163 a164 ⟨rfl, hk166⟩ hf165
      refine ⟨.inr (Gr.still hk166.cum.none), ?_⟩
      have hm167 := hm162.still hk166.cum.none
      have q168 := (hm167.slAt 7 rfl).float r100 g101.1 g101.2
      obtain ⟨b169, hb169, kb169⟩ := q168.2
      have q170 := (hm167.owAt 3 rfl).float s87.1 g102.1 g102.2
      obtain ⟨b171, hb171, kb171⟩ := q170.2
      refine quiet0 [11, 12, 13] [.float .f64 b169] [1, 2, 4, 6, 27, 28, 43, 44] #[true, true, true, true, true, true, true, true, true, true, true, true, true, true, false] [(1, .slice A1 x1.length c1), (2, .pointer (some ⟨b21, 0, none⟩)), (4, .pointer (some ⟨b28, 0, none⟩)), (6, .pointer (some ⟨b72, 0, none⟩)), (27, .int .i64 (r57.1.Data.length : Int)), (28, .int .i64 s87.1), (43, .float .f64 b169), (44, .pointer (some ((ad A62).add ((s87.1).toNat * 1))))] [.is (Option.isSome A0_1 = true), .is (0 ≤ r100 ∧ r100 < (x0.Data.length : Int)), .cell ((ad A0_1).add ((r100).toNat * 1)) (.float .f64 b169), .is (Option.isSome A62 = true), .is (0 ≤ s87.1 ∧ s87.1 < (s87.2.length : Int))] 1 rfl (by kernel_rfl) (fun _ _ _ _ _ h => nomatch h.1) hf165 (by kernel_rfl) ⟨q168.1, g101, kb169, q170.1, g102, trivial⟩ fun a172 hf173 => ?_
      refine all1 14 (by kernel_rfl) ?_
      refine opOf hf173 rfl (by kernel_rfl) (aStoreO (kd := Kd.float) (base := 0) (E := 26) (A := A62) (c := c63) (xs := s87.2) (i := s87.1) (x := (rd x0.Data r100)) (us := [.float .f64 b169]) (sz := 1) hf173 (by kernel_rfl) rfl (by kernel_rfl) (hm167.at 3 rfl) ⟨_, rfl, hb169⟩ g102.1 g102.2 ?_)
      intro w174 hx175 hg176
      refine ⟨.inl (by decide), ?_⟩
      have hm177 := hm167.setOwn 3 _ rfl rfl hx175 hg176 (.inl rfl)
      refine allDone (by kernel_rfl) ⟨rfl, hf173.sel (l := [1, 2, 4, 6, 27, 28]) (by kernel_rfl), hm177.sel [1, 2, 3, 4, 5, 6, 7, 8] _ rfl (by kernel_rfl)⟩
    rintro a178 w179 ⟨hf180, hm181⟩
    refine blkN ?_
    refine thenN ?_
    refine reg [] [1, 2, 4, 6, 27, 28] [(1, .slice A1 x1.length c1), (2, .pointer (some ⟨b21, 0, none⟩)), (4, .pointer (some ⟨b28, 0, none⟩)), (6, .pointer (some ⟨b72, 0, none⟩)), (27, .int .i64 (r57.1.Data.length : Int)), (28, .int .i64 (w64 (s87.1 + 1)))] [] hf180 (by kernel_rfl) trivial fun a182 hf183 => ?_
    have hf184 : Fr 47 a182 [(1, .slice A1 x1.length c1), (2, .pointer (some ⟨b21, 0, none⟩)), (4, .pointer (some ⟨b28, 0, none⟩)), (6, .pointer (some ⟨b72, 0, none⟩)), (27, .int .i64 (r57.1.Data.length : Int)), (28, .int .i64 (w64 (s87.1 + 1)))] := hf183.sel (l := [1, 2, 4, 6, 27, 28]) (by kernel_rfl)
    have hm185 : Mem [] M w0 [.bx b72 [.slice A60 r57.1.Shape.length c61, .slice A62 s87.2.length c63] 25, .ow (Kd.int .i64) 3 A60 c61 r57.1.Shape, .ow Kd.float 26 A62 c63 (put s87.2 s87.1 (rd x0.Data r100)), .bx b28 [.slice none 0 0, .slice none 0 0] 25, .bx b21 [.slice A0_0 x0.Shape.length c0_0, .slice A0_1 x0.Data.length c0_1] 25, .sl (Kd.int .i64) A0_0 c0_0 x0.Shape, .sl Kd.float A0_1 c0_1 x0.Data, .sl (Kd.int .i64) A1 c1 x1] w179 := hm181.sel [0, 1, 2, 3, 4, 5, 6, 7] _ rfl (by kernel_rfl)
    exact ⟨((w64 (s87.1 + 1)), (put s87.2 s87.1 (rd x0.Data r100))), H1, (by simpa only [put_length, List.length_nil] using hf184), (by simpa only [put_length, List.length_nil] using hm185)⟩
  rintro a188 w189 ⟨hf190, hm191⟩
  refine thenN ?_
  refine wp_seq ?_
  refine inReg ?_
  refine go 1 [.agg #[.slice A60 r57.1.Shape.length c61, .slice A62 r88.2.length c63]] [4, 46] [(4, .pointer (some ⟨b28, 0, none⟩)), (46, .agg #[.slice A60 r57.1.Shape.length c61, .slice A62 r88.2.length c63])] [.cell ⟨b72, 0, none⟩ (.slice A60 r57.1.Shape.length c61), .cell ⟨b72, 1, none⟩ (.slice A62 r88.2.length c63)] hf190 (by kernel_rfl) ⟨(hm191.cell 0 rfl rfl), (hm191.cell 0 rfl rfl), trivial⟩ fun a192 hf193 => ?_
  refine listOf hf193 rfl (by kernel_rfl) (aStoreB (b := b28) (j := 0) (T := 25) (cs := [.slice none 0 0, .slice none 0 0]) (us := [.slice A60 r57.1.Shape.length c61, .slice A62 r88.2.length c63]) (cs' := [.slice A60 r57.1.Shape.length c61, .slice A62 r88.2.length c63]) hf193 (by kernel_rfl) (hm191.bxAt 3 rfl) (by kernel_rfl) (by kernel_rfl) (by kernel_rfl) ?_)
  intro w194 hx195 hg196
  have hm197 := hm191.setBox 3 _ rfl rfl hx195 hg196
  refine go 1 [] [4, 5] [(4, .pointer (some ⟨b28, 0, none⟩)), (5, .int .i64 0)] [] hf193 (by kernel_rfl) trivial fun a198 hf199 => ?_
  refine endL rfl ?_
  have hm200 := hm197.sel [1, 2, 3] _ rfl (by kernel_rfl)
  refine thenN ?_
  refine wp_ret ?_
  have hm201 : Mem [] M w0 [.ow (Kd.int .i64) 3 A60 c61 r57.1.Shape, .ow Kd.float 26 A62 c63 r88.2] w194 := hm200.sel [0, 1] _ rfl (by kernel_rfl)
  obtain rfl := Option.some.inj H0
  refine ret [.agg #[.slice A60 r57.1.Shape.length c61, .slice A62 r88.2.length c63]] [.agg #[.slice A60 r57.1.Shape.length c61, .slice A62 r88.2.length c63], .int .i64 0] [.cell ⟨b28, 0, none⟩ (.slice A60 r57.1.Shape.length c61), .cell ⟨b28, 1, none⟩ (.slice A62 r88.2.length c63)] hf199 (by kernel_rfl) ⟨(hm200.cell 2 rfl rfl), (hm200.cell 2 rfl rfl), trivial⟩ ?_
  exact ⟨_, rfl, A60, c61, A62, c63, rfl, hm201⟩

/-! ### backstitch/backstitchref1.Size -/
noncomputable def ref1_Size.l0 (x0 : (List Int)) (s35 : Int) : Step Int (Out2 Int (Int × Int)) :=
  if s35 < (x0.length : Int) then (if 0 ≤ s35 ∧ s35 < (x0.length : Int) then (if (rd x0 s35) < 1 then (.done (.ret (0, 2)))
  else (.next (w64 (s35 + 1))))
  else .bad)
  else (.done (.go s35))
noncomputable def ref1_Size.l1 (x0 : (List Int)) (s71 : (Int × Int)) : Step (Int × Int) (Out2 (Int × Int) (Int × Int)) :=
  if s71.2 < (x0.length : Int) then (if 0 ≤ s71.2 ∧ s71.2 < (x0.length : Int) then (if s71.1 ≠ 0 then (if (w64 (Int.tdiv 4096 s71.1)) < (rd x0 s71.2) then (.done (.ret (0, 3)))
  else (.next ((w64 (s71.1 * (rd x0 s71.2))), (w64 (s71.2 + 1)))))
  else .bad)
  else .bad)
  else (.done (.go (s71.1, s71.2)))
noncomputable def ref1_Size.f (x0 : (List Int)) : Option (Int × Int) :=
  if 4 < (x0.length : Int) then (some (0, 2))
  else ((loop (ref1_Size.l0 x0) 0).bind fun r36 =>
  r36.on (fun yr36 =>
  (loop (ref1_Size.l1 x0) (1, 0)).bind fun r72 =>
  r72.on (fun yr72 =>
  some (yr72.1, 0)) (fun y => some y)) (fun y => some y))
set_option maxRecDepth 100000 in
set_option maxHeartbeats 4000000 in
theorem ref1_Size.calls (M : List (Option Nat)) (w0 : World) (x0 : (List Int)) (A0 : Option Addr) (n0 c0 : Nat) (e0 : n0 = x0.length) (hm0 : Mem [] M w0 [.sl (Kd.int .i64) A0 c0 x0] w0) (r : (Int × Int)) (H0 : ref1_Size.f x0 = some r) :
    Calls Try.prog 15 [.slice A0 n0 c0].toArray w0 (fun x w' => ∃ v, x = .returned v ∧ v = .tuple #[.int .i64 r.1, .int .i64 r.2] ∧ Mem [] M w0 [] w') := by
  subst e0
  unfold ref1_Size.f at H0
  refine enter (n := 41) Try.func15 rfl rfl (by kernel_rfl) fun a0 (hf0 : Fr 41 a0 [(0, .slice A0 x0.length c0)]) => ?_
  refine wp_seq ?_
  refine reg [] [0] [(0, .slice A0 x0.length c0)] [] hf0 (by kernel_rfl) trivial fun a21 hf22 => ?_
  refine thenN ?_
  refine wp_seq ?_
  refine wp_seq ?_
  rcases if_split H0 with ⟨c23, H0⟩ | ⟨c23, H0⟩
  · refine reg [.bool true] [0, 9] [(0, .slice A0 x0.length c0), (9, .bool true)] [.is (decide (4 < (x0.length : Int)) = true)] hf22 (by kernel_rfl) ⟨(decide_eq_true c23), trivial⟩ fun a24 hf25 => ?_
    refine thenN ?_
    refine condT hf25 (by kernel_rfl) ?_
    refine wp_seq ?_
    refine reg [] [2, 3] [(2, .int .i64 0), (3, .int .i64 2)] [] hf25 (by kernel_rfl) trivial fun a26 hf27 => ?_
    have hm28 := hm0.sel [] _ rfl (by kernel_rfl)
    refine thenN ?_
    refine wp_ret ?_
    refine thenR ?_
    have hm29 : Mem [] M w0 [] w0 := hm28.sel [] _ rfl (by kernel_rfl)
    obtain rfl := Option.some.inj H0
    refine ret [] [.int .i64 0, .int .i64 2] [] hf27 (by kernel_rfl) trivial ?_
    exact ⟨_, rfl, rfl, hm29⟩
  refine reg [.bool false] [0, 9] [(0, .slice A0 x0.length c0), (9, .bool false)] [.is (decide (4 < (x0.length : Int)) = false)] hf22 (by kernel_rfl) ⟨(decide_eq_false c23), trivial⟩ fun a31 hf32 => ?_
  refine thenN ?_
  refine condF hf32 (by kernel_rfl) ?_
  refine wp_skip ?_
  refine thenN ?_
  refine wp_seq ?_
  refine wp_seq ?_
  refine reg [] [0, 4] [(0, .slice A0 x0.length c0), (4, .int .i64 0)] [] hf32 (by kernel_rfl) trivial fun a33 hf34 => ?_
  refine thenN ?_
  obtain ⟨r36, hr36, H0⟩ := ob_split H0
  refine wpBlock (Mid := fun (a : Act) (w : World) => ∃ yr36 : Int, r36 = .go yr36 ∧ Fr 41 a [(0, .slice A0 x0.length c0), (4, .int .i64 yr36)] ∧ Mem [] M w0 [.sl (Kd.int .i64) A0 c0 x0] w) ?_ ?_
  · refine wpLoop (ref1_Size.l0 x0) r36 (fun (s35 : Int) (a : Act) (w : World) => Fr 41 a [(0, .slice A0 x0.length c0), (4, .int .i64 s35)] ∧ Mem [] M w0 [.sl (Kd.int .i64) A0 c0 x0] w) 0 hr36 ⟨hf34.sel (l := [0, 4]) (by kernel_rfl), hm0.sel [0] _ rfl (by kernel_rfl)⟩ ?_
    rintro g37 s35 a38 w39 H1 ⟨hf40, hm41⟩
    unfold ref1_Size.l0 at H1
    refine wp_seq ?_
    refine wp_seq ?_
    rcases ifS_split H1 with ⟨c42, H1⟩ | ⟨c42, H1⟩
    rotate_left
    · refine reg [.bool false] [0, 4, 13] [(0, .slice A0 x0.length c0), (4, .int .i64 s35), (13, .bool false)] [.is (decide (s35 < (x0.length : Int)) = false)] hf40 (by kernel_rfl) ⟨(decide_eq_false c42), trivial⟩ fun a60 hf61 => ?_
      refine thenN ?_
      refine condF hf61 (by kernel_rfl) ?_
      refine wp_exit ?_
      refine thenE ?_
      refine thenE ?_
      obtain rfl := Option.some.inj H1
      exact .inl ⟨rfl, s35, rfl, hf61.sel (l := [0, 4]) (by kernel_rfl), hm41.sel [0] _ rfl (by kernel_rfl)⟩
    refine reg [.bool true] [0, 4, 13] [(0, .slice A0 x0.length c0), (4, .int .i64 s35), (13, .bool true)] [.is (decide (s35 < (x0.length : Int)) = true)] hf40 (by kernel_rfl) ⟨(decide_eq_true c42), trivial⟩ fun a43 hf44 => ?_
    refine thenN ?_
    refine condT hf44 (by kernel_rfl) ?_
    refine wp_skip ?_
    refine thenN ?_
    refine wp_seq ?_
    refine wp_block ?_
    refine wp_seq ?_
    obtain ⟨g45, H1⟩ := ifS_guard H1
    rcases ifS_split H1 with ⟨c46, H1⟩ | ⟨c46, H1⟩
    rotate_left
    · have q55 := (hm41.slAt 0 rfl).int s35 g45.1 g45.2
      refine reg [.int .i64 (rd x0 s35), .bool false] [0, 4, 20] [(0, .slice A0 x0.length c0), (4, .int .i64 s35), (20, .bool false)] [.is (Option.isSome A0 = true), .is (0 ≤ s35 ∧ s35 < (x0.length : Int)), .cell ((ad A0).add ((s35).toNat * 1)) (.int .i64 (rd x0 s35)), .is (decide ((rd x0 s35) < 1) = false)] hf44 (by kernel_rfl) ⟨q55.1, g45, q55.2, (decide_eq_false c46), trivial⟩ fun a56 hf57 => ?_
      refine thenN ?_
      refine condF hf57 (by kernel_rfl) ?_
      refine wp_skip ?_
      refine blkN ?_
      refine thenN ?_
      refine reg [] [0, 4] [(0, .slice A0 x0.length c0), (4, .int .i64 (w64 (s35 + 1)))] [] hf57 (by kernel_rfl) trivial fun a58 hf59 => ?_
      exact ⟨(w64 (s35 + 1)), H1, hf59.sel (l := [0, 4]) (by kernel_rfl), hm41.sel [0] _ rfl (by kernel_rfl)⟩
    have q47 := (hm41.slAt 0 rfl).int s35 g45.1 g45.2
    refine reg [.int .i64 (rd x0 s35), .bool true] [0, 4, 20] [(0, .slice A0 x0.length c0), (4, .int .i64 s35), (20, .bool true)] [.is (Option.isSome A0 = true), .is (0 ≤ s35 ∧ s35 < (x0.length : Int)), .cell ((ad A0).add ((s35).toNat * 1)) (.int .i64 (rd x0 s35)), .is (decide ((rd x0 s35) < 1) = true)] hf44 (by kernel_rfl) ⟨q47.1, g45, q47.2, (decide_eq_true c46), trivial⟩ fun a48 hf49 => ?_
    refine thenN ?_
    refine condT hf49 (by kernel_rfl) ?_
    refine wp_seq ?_
    refine reg [] [2, 3] [(2, .int .i64 0), (3, .int .i64 2)] [] hf49 (by kernel_rfl) trivial fun a50 hf51 => ?_
    have hm52 := hm41.sel [] _ rfl (by kernel_rfl)
    refine thenN ?_
    refine wp_ret ?_
    refine blkR ?_
    refine thenR ?_
    refine thenR ?_
    refine .inr ⟨rfl, ?_⟩
    refine thenR ?_
    have hm53 : Mem [] M w0 [] w39 := hm52.sel [] _ rfl (by kernel_rfl)
    obtain rfl := Option.some.inj H1
    obtain rfl := Option.some.inj H0
    refine ret [] [.int .i64 0, .int .i64 2] [] hf51 (by kernel_rfl) trivial ?_
    exact ⟨_, rfl, rfl, hm53⟩
  rintro a62 w63 ⟨yr36, rfl, hf65, hm66⟩
  refine thenN ?_
  refine wp_seq ?_
  refine reg [] [0, 5] [(0, .slice A0 x0.length c0), (5, .int .i64 1)] [] hf65 (by kernel_rfl) trivial fun a67 hf68 => ?_
  refine thenN ?_
  refine wp_seq ?_
  refine wp_seq ?_
  refine reg [] [0, 5, 6] [(0, .slice A0 x0.length c0), (5, .int .i64 1), (6, .int .i64 0)] [] hf68 (by kernel_rfl) trivial fun a69 hf70 => ?_
  refine thenN ?_
  obtain ⟨r72, hr72, H0⟩ := ob_split H0
  refine wpBlock (Mid := fun (a : Act) (w : World) => ∃ yr72 : (Int × Int), r72 = .go yr72 ∧ Fr 41 a [(0, .slice A0 x0.length c0), (5, .int .i64 yr72.1), (6, .int .i64 yr72.2)] ∧ Mem [] M w0 [.sl (Kd.int .i64) A0 c0 x0] w) ?_ ?_
  · refine wpLoop (ref1_Size.l1 x0) r72 (fun (s71 : (Int × Int)) (a : Act) (w : World) => Fr 41 a [(0, .slice A0 x0.length c0), (5, .int .i64 s71.1), (6, .int .i64 s71.2)] ∧ Mem [] M w0 [.sl (Kd.int .i64) A0 c0 x0] w) (1, 0) hr72 ⟨hf70.sel (l := [0, 5, 6]) (by kernel_rfl), hm66.sel [0] _ rfl (by kernel_rfl)⟩ ?_
    rintro g73 s71 a74 w75 H1 ⟨hf76, hm77⟩
    unfold ref1_Size.l1 at H1
    refine wp_seq ?_
    refine wp_seq ?_
    rcases ifS_split H1 with ⟨c78, H1⟩ | ⟨c78, H1⟩
    rotate_left
    · refine reg [.bool false] [0, 5, 6, 24] [(0, .slice A0 x0.length c0), (5, .int .i64 s71.1), (6, .int .i64 s71.2), (24, .bool false)] [.is (decide (s71.2 < (x0.length : Int)) = false)] hf76 (by kernel_rfl) ⟨(decide_eq_false c78), trivial⟩ fun a106 hf107 => ?_
      refine thenN ?_
      refine condF hf107 (by kernel_rfl) ?_
      refine wp_exit ?_
      refine thenE ?_
      refine thenE ?_
      obtain rfl := Option.some.inj H1
      exact .inl ⟨rfl, (s71.1, s71.2), rfl, hf107.sel (l := [0, 5, 6]) (by kernel_rfl), hm77.sel [0] _ rfl (by kernel_rfl)⟩
    refine reg [.bool true] [0, 5, 6, 24] [(0, .slice A0 x0.length c0), (5, .int .i64 s71.1), (6, .int .i64 s71.2), (24, .bool true)] [.is (decide (s71.2 < (x0.length : Int)) = true)] hf76 (by kernel_rfl) ⟨(decide_eq_true c78), trivial⟩ fun a79 hf80 => ?_
    refine thenN ?_
    refine condT hf80 (by kernel_rfl) ?_
    refine wp_skip ?_
    refine thenN ?_
    refine wp_seq ?_
    refine wp_block ?_
    refine wp_seq ?_
    refine wp_seq ?_
    obtain ⟨g81, H1⟩ := ifS_guard H1
    obtain ⟨g82, H1⟩ := ifS_guard H1
    rcases ifS_split H1 with ⟨c83, H1⟩ | ⟨c83, H1⟩
    rotate_left
    · have q95 := (hm77.slAt 0 rfl).int s71.2 g81.1 g81.2
      refine regQ [.int .i64 (rd x0 s71.2), .bool false] [0, 5, 6, 33] [(0, .slice A0 x0.length c0), (5, .int .i64 s71.1), (6, .int .i64 s71.2), (33, .bool false)] [.is (Option.isSome A0 = true), .is (0 ≤ s71.2 ∧ s71.2 < (x0.length : Int)), .cell ((ad A0).add ((s71.2).toNat * 1)) (.int .i64 (rd x0 s71.2)), .is (s71.1 ≠ 0), .is (decide ((w64 (Int.tdiv 4096 s71.1)) < (rd x0 s71.2)) = false)] (by kernel_rfl) (by kernel_rfl) hf80 (by kernel_rfl) ⟨q95.1, g81, q95.2, g82, (decide_eq_false c83), trivial⟩ fun a96 w98 hf97 hg99 => ?_
      have hm100 := hm77.still hg99
      refine thenN ?_
      refine condF hf97 (by kernel_rfl) ?_
      refine wp_skip ?_
      refine thenN ?_
      have q101 := (hm100.slAt 0 rfl).int s71.2 g81.1 g81.2
      refine reg [.int .i64 (rd x0 s71.2)] [0, 5, 6] [(0, .slice A0 x0.length c0), (5, .int .i64 (w64 (s71.1 * (rd x0 s71.2)))), (6, .int .i64 s71.2)] [.is (Option.isSome A0 = true), .is (0 ≤ s71.2 ∧ s71.2 < (x0.length : Int)), .cell ((ad A0).add ((s71.2).toNat * 1)) (.int .i64 (rd x0 s71.2))] hf97 (by kernel_rfl) ⟨q101.1, g81, q101.2, trivial⟩ fun a102 hf103 => ?_
      refine blkN ?_
      refine thenN ?_
      refine reg [] [0, 5, 6] [(0, .slice A0 x0.length c0), (5, .int .i64 (w64 (s71.1 * (rd x0 s71.2)))), (6, .int .i64 (w64 (s71.2 + 1)))] [] hf103 (by kernel_rfl) trivial fun a104 hf105 => ?_
      exact ⟨((w64 (s71.1 * (rd x0 s71.2))), (w64 (s71.2 + 1))), H1, hf105.sel (l := [0, 5, 6]) (by kernel_rfl), hm100.sel [0] _ rfl (by kernel_rfl)⟩
    have q84 := (hm77.slAt 0 rfl).int s71.2 g81.1 g81.2
    refine regQ [.int .i64 (rd x0 s71.2), .bool true] [0, 5, 6, 33] [(0, .slice A0 x0.length c0), (5, .int .i64 s71.1), (6, .int .i64 s71.2), (33, .bool true)] [.is (Option.isSome A0 = true), .is (0 ≤ s71.2 ∧ s71.2 < (x0.length : Int)), .cell ((ad A0).add ((s71.2).toNat * 1)) (.int .i64 (rd x0 s71.2)), .is (s71.1 ≠ 0), .is (decide ((w64 (Int.tdiv 4096 s71.1)) < (rd x0 s71.2)) = true)] (by kernel_rfl) (by kernel_rfl) hf80 (by kernel_rfl) ⟨q84.1, g81, q84.2, g82, (decide_eq_true c83), trivial⟩ fun a85 w87 hf86 hg88 => ?_
    have hm89 := hm77.still hg88
    refine thenN ?_
    refine condT hf86 (by kernel_rfl) ?_
    refine wp_seq ?_
    refine reg [] [2, 3] [(2, .int .i64 0), (3, .int .i64 3)] [] hf86 (by kernel_rfl) trivial fun a90 hf91 => ?_
    have hm92 := hm89.sel [] _ rfl (by kernel_rfl)
    refine thenN ?_
    refine wp_ret ?_
    refine thenR ?_
    refine blkR ?_
    refine thenR ?_
    refine thenR ?_
    refine .inr ⟨rfl, ?_⟩
    refine thenR ?_
    have hm93 : Mem [] M w0 [] w87 := hm92.sel [] _ rfl (by kernel_rfl)
    obtain rfl := Option.some.inj H1
    obtain rfl := Option.some.inj H0
    refine ret [] [.int .i64 0, .int .i64 3] [] hf91 (by kernel_rfl) trivial ?_
    exact ⟨_, rfl, rfl, hm93⟩
  rintro a108 w109 ⟨yr72, rfl, hf110, hm111⟩
  refine thenN ?_
  refine wp_seq ?_
  refine reg [] [2, 3] [(2, .int .i64 yr72.1), (3, .int .i64 0)] [] hf110 (by kernel_rfl) trivial fun a112 hf113 => ?_
  have hm114 := hm111.sel [] _ rfl (by kernel_rfl)
  refine thenN ?_
  refine wp_ret ?_
  have hm115 : Mem [] M w0 [] w109 := hm114.sel [] _ rfl (by kernel_rfl)
  obtain rfl := Option.some.inj H0
  refine ret [] [.int .i64 yr72.1, .int .i64 0] [] hf113 (by kernel_rfl) trivial ?_
  exact ⟨_, rfl, rfl, hm115⟩

/-! ### backstitch/backstitchref1.TensorMay -/
noncomputable def ref1_TensorMay.f (x0 : Tensor) : Option Bool :=
  (ref1_Size.f x0.Shape).bind fun r30 =>
  if r30.2 = 0 then (if r30.1 = (x0.Data.length : Int) then (some true)
  else (some false))
  else (some false)
set_option maxRecDepth 100000 in
set_option maxHeartbeats 4000000 in
theorem ref1_TensorMay.calls (M : List (Option Nat)) (w0 : World) (x0 : Tensor) (A0_0 : Option Addr) (n0_0 c0_0 : Nat) (e0_0 : n0_0 = x0.Shape.length) (A0_1 : Option Addr) (n0_1 c0_1 : Nat) (e0_1 : n0_1 = x0.Data.length) (hm0 : Mem [] M w0 [.sl (Kd.int .i64) A0_0 c0_0 x0.Shape, .sl Kd.float A0_1 c0_1 x0.Data] w0) (r : Bool) (H0 : ref1_TensorMay.f x0 = some r) :
    Calls Try.prog 8 [.agg #[.slice A0_0 n0_0 c0_0, .slice A0_1 n0_1 c0_1]].toArray w0 (fun x w' => ∃ v, x = .returned v ∧ v = .bool r ∧ Mem [] M w0 [] w') := by
  subst e0_0
  subst e0_1
  unfold ref1_TensorMay.f at H0
  refine enter (n := 20) Try.func8 rfl rfl (by kernel_rfl) fun a0 (hf0 : Fr 20 a0 [(0, .agg #[.slice A0_0 x0.Shape.length c0_0, .slice A0_1 x0.Data.length c0_1])]) => ?_
  refine wp_seq ?_
  refine inReg ?_
  refine listOf hf0 rfl (by kernel_rfl) (aNew (cs := [.slice A0_0 x0.Shape.length c0_0, .slice A0_1 x0.Data.length c0_1]) (T := 25) (d := 1) hf0 (by kernel_rfl) (by kernel_rfl) ?_)
  intro b21 w22 a23 hbb21 hx25 hg26 hf24
  have hm27 := hm0.box hbb21 hx25 hg26
  refine go 1 [] [1] [(1, .pointer (some ⟨b21, 0, none⟩))] [] hf24 (by kernel_rfl) trivial fun a28 hf29 => ?_
  refine endL rfl ?_
  refine thenN ?_
  refine wp_seq ?_
  obtain ⟨r30, hr30, H0⟩ := ob_split H0
  refine inReg ?_
  refine go 2 [.slice A0_0 x0.Shape.length c0_0] [1, 7] [(1, .pointer (some ⟨b21, 0, none⟩)), (7, .slice A0_0 x0.Shape.length c0_0)] [.cell ⟨b21, 0, none⟩ (.slice A0_0 x0.Shape.length c0_0)] hf29 (by kernel_rfl) ⟨(hm27.cell 0 rfl rfl), trivial⟩ fun a31 hf32 => ?_
  refine listOf hf32 rfl (by kernel_rfl) (aCall (fid := 15) (args := [.slice A0_0 x0.Shape.length c0_0]) (d := 8) hf32 (by kernel_rfl) (by kernel_rfl) callable15 (ref1_Size.calls _ _ x0.Shape A0_0 x0.Shape.length c0_0 rfl (hm27.give [1] [.sl (Kd.int .i64) A0_0 c0_0 x0.Shape] rfl rfl) r30 hr30) ?_)
  rintro _ w33 a34 ⟨rfl, hk36⟩ hf35
  have hm37 := hm27.still hk36.cum.none
  refine go 5 [] [1, 3, 4] [(1, .pointer (some ⟨b21, 0, none⟩)), (3, .int .i64 r30.1), (4, .int .i64 r30.2)] [] hf35 (by kernel_rfl) trivial fun a38 hf39 => ?_
  refine endL rfl ?_
  refine thenN ?_
  refine wp_seq ?_
  rcases if_split H0 with ⟨c40, H0⟩ | ⟨c40, H0⟩
  rotate_left
  · refine reg [.bool false] [2] [(2, .bool false)] [.is (((r30.2 : Int) == 0) = false)] hf39 (by kernel_rfl) ⟨(eqF c40), trivial⟩ fun a52 hf53 => ?_
    have hm54 := hm37.sel [] _ rfl (by kernel_rfl)
    refine thenN ?_
    refine wp_ret ?_
    have hm55 : Mem [] M w0 [] w33 := hm54.sel [] _ rfl (by kernel_rfl)
    obtain rfl := Option.some.inj H0
    refine ret [] [.bool false] [] hf53 (by kernel_rfl) trivial ?_
    exact ⟨_, rfl, rfl, hm55⟩
  rcases if_split H0 with ⟨c41, H0⟩ | ⟨c41, H0⟩
  · refine reg [.bool true, .slice A0_1 x0.Data.length c0_1, .bool true] [2] [(2, .bool true)] [.is (((r30.2 : Int) == 0) = true), .cell ⟨b21, 1, none⟩ (.slice A0_1 x0.Data.length c0_1), .is (((r30.1 : Int) == (x0.Data.length : Int)) = true)] hf39 (by kernel_rfl) ⟨(eqT c40), (hm37.cell 0 rfl rfl), (eqT c41), trivial⟩ fun a42 hf43 => ?_
    have hm44 := hm37.sel [] _ rfl (by kernel_rfl)
    refine thenN ?_
    refine wp_ret ?_
    have hm45 : Mem [] M w0 [] w33 := hm44.sel [] _ rfl (by kernel_rfl)
    obtain rfl := Option.some.inj H0
    refine ret [] [.bool true] [] hf43 (by kernel_rfl) trivial ?_
    exact ⟨_, rfl, rfl, hm45⟩
  refine reg [.bool true, .slice A0_1 x0.Data.length c0_1, .bool false] [2] [(2, .bool false)] [.is (((r30.2 : Int) == 0) = true), .cell ⟨b21, 1, none⟩ (.slice A0_1 x0.Data.length c0_1), .is (((r30.1 : Int) == (x0.Data.length : Int)) = false)] hf39 (by kernel_rfl) ⟨(eqT c40), (hm37.cell 0 rfl rfl), (eqF c41), trivial⟩ fun a47 hf48 => ?_
  have hm49 := hm37.sel [] _ rfl (by kernel_rfl)
  refine thenN ?_
  refine wp_ret ?_
  have hm50 : Mem [] M w0 [] w33 := hm49.sel [] _ rfl (by kernel_rfl)
  obtain rfl := Option.some.inj H0
  refine ret [] [.bool false] [] hf48 (by kernel_rfl) trivial ?_
  exact ⟨_, rfl, rfl, hm50⟩

/-! ### backstitch/backstitchref1.May -/
noncomputable def ref1_May.f (x0 : (List Int)) : Option Bool :=
  (ref1_Size.f x0).bind fun r23 =>
  if r23.2 = 0 then (some true)
  else (some false)
set_option maxRecDepth 100000 in
set_option maxHeartbeats 4000000 in
theorem ref1_May.calls (M : List (Option Nat)) (w0 : World) (x0 : (List Int)) (A0 : Option Addr) (n0 c0 : Nat) (e0 : n0 = x0.length) (hm0 : Mem [] M w0 [.sl (Kd.int .i64) A0 c0 x0] w0) (r : Bool) (H0 : ref1_May.f x0 = some r) :
    Calls Try.prog 73 [.slice A0 n0 c0].toArray w0 (fun x w' => ∃ v, x = .returned v ∧ v = .bool r ∧ Mem [] M w0 [] w') := by
  subst e0
  unfold ref1_May.f at H0
  refine enter (n := 12) Try.func73 rfl rfl (by kernel_rfl) fun a0 (hf0 : Fr 12 a0 [(0, .slice A0 x0.length c0)]) => ?_
  refine wp_seq ?_
  refine reg [] [0] [(0, .slice A0 x0.length c0)] [] hf0 (by kernel_rfl) trivial fun a21 hf22 => ?_
  refine thenN ?_
  refine wp_seq ?_
  obtain ⟨r23, hr23, H0⟩ := ob_split H0
  refine inReg ?_
  refine go 1 [] [6] [(6, .slice A0 x0.length c0)] [] hf22 (by kernel_rfl) trivial fun a24 hf25 => ?_
  refine listOf hf25 rfl (by kernel_rfl) (aCall (fid := 15) (args := [.slice A0 x0.length c0]) (d := 7) hf25 (by kernel_rfl) (by kernel_rfl) callable15 (ref1_Size.calls _ _ x0 A0 x0.length c0 rfl (hm0.give [0] [.sl (Kd.int .i64) A0 c0 x0] rfl rfl) r23 hr23) ?_)
  rintro _ w26 a27 ⟨rfl, hk29⟩ hf28
  have hm30 := hm0.still hk29.cum.none
  refine go 5 [] [4] [(4, .int .i64 r23.2)] [] hf28 (by kernel_rfl) trivial fun a31 hf32 => ?_
  refine endL rfl ?_
  have hm33 := hm30.sel [] _ rfl (by kernel_rfl)
  refine thenN ?_
  refine wp_seq ?_
  rcases if_split H0 with ⟨c34, H0⟩ | ⟨c34, H0⟩
  · refine reg [.bool true] [2] [(2, .bool true)] [.is (((r23.2 : Int) == 0) = true)] hf32 (by kernel_rfl) ⟨(eqT c34), trivial⟩ fun a35 hf36 => ?_
    refine thenN ?_
    refine wp_ret ?_
    have hm37 : Mem [] M w0 [] w26 := hm33.sel [] _ rfl (by kernel_rfl)
    obtain rfl := Option.some.inj H0
    refine ret [] [.bool true] [] hf36 (by kernel_rfl) trivial ?_
    exact ⟨_, rfl, rfl, hm37⟩
  refine reg [.bool false] [2] [(2, .bool false)] [.is (((r23.2 : Int) == 0) = false)] hf32 (by kernel_rfl) ⟨(eqF c34), trivial⟩ fun a39 hf40 => ?_
  refine thenN ?_
  refine wp_ret ?_
  have hm41 : Mem [] M w0 [] w26 := hm33.sel [] _ rfl (by kernel_rfl)
  obtain rfl := Option.some.inj H0
  refine ret [] [.bool false] [] hf40 (by kernel_rfl) trivial ?_
  exact ⟨_, rfl, rfl, hm41⟩
end Go.Proofs.Ytkcgiolledmbnac
