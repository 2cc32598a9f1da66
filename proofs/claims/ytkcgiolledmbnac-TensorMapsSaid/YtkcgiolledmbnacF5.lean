/- Printed by gen.py. -/
import Derived.Test.YtkcgiolledmbnacF1
import Derived.Test.YtkcgiolledmbnacF4
namespace Go.Proofs.Ytkcgiolledmbnac
open Go Go.RowKit
set_option linter.unusedSimpArgs false
set_option linter.unusedVariables false
set_option linter.unnecessarySimpa false
/-! ### (backstitch/backstitchlaw3.adder).add -/
noncomputable def law3_adder_add.f (x0 : Adder) (x1 : Nat) : Option Nat :=
  some (fadd x1 x0.X)
set_option maxRecDepth 100000 in
set_option maxHeartbeats 4000000 in
theorem law3_adder_add.calls (M : List (Option Nat)) (w0 : World) (x0 : Adder) (b0_0 : Nat) (h0_0 : FR b0_0 x0.X) (x1 : Nat) (b1 : Nat) (h1 : FR b1 x1) (hm0 : Mem [] M w0 [] w0) (r : Nat) (H0 : law3_adder_add.f x0 x1 = some r) :
    Calls Try.prog 10 [.agg #[.float .f64 b0_0], .float .f64 b1].toArray w0 (fun x w' => ∃ v, x = .returned v ∧ ∃ br0, v = .float .f64 br0 ∧ FR br0 r ∧ Mem [] M w0 [] w') := by
  unfold law3_adder_add.f at H0
  refine enter (n := 9) Try.func10 rfl rfl (by kernel_rfl) fun a0 (hf0 : Fr 9 a0 [(0, .agg #[.float .f64 b0_0]), (1, .float .f64 b1)]) => ?_
  refine wp_seq ?_
  refine inReg ?_
  refine listOf hf0 rfl (by kernel_rfl) (aNew (cs := [.float .f64 b0_0]) (T := 30) (d := 2) hf0 (by kernel_rfl) (by kernel_rfl) ?_)
  intro b21 w22 a23 hbb21 hx25 hg26 hf24
  have hm27 := hm0.box hbb21 hx25 hg26
  refine go 1 [] [1, 2] [(1, .float .f64 b1), (2, .pointer (some ⟨b21, 0, none⟩))] [] hf24 (by kernel_rfl) trivial fun a28 hf29 => ?_
  refine endL rfl ?_
  refine thenN ?_
  refine wp_seq ?_
  refine inReg ?_
  refine go 3 [.float .f64 b0_0] [5, 7] [(5, .float .f64 b1), (7, .float .f64 b0_0)] [.cell ⟨b21, 0, none⟩ (.float .f64 b0_0)] hf29 (by kernel_rfl) ⟨(hm27.cell 0 rfl rfl), trivial⟩ fun a30 hf31 => ?_
  refine listOf hf31 rfl (by kernel_rfl) (aArith (k := 0) (b := b1) (c := b0_0) (x := x1) (y := x0.X) (d := 8) hf31 (by kernel_rfl) (by kernel_rfl) h1 h0_0 ?_)
  intro b32 w33 a34 hb32 hg36 hf35
  replace hb32 : FR b32 (fadd x1 x0.X) := hb32
  have hm37 := hm27.still hg36
  refine go 1 [] [4] [(4, .float .f64 b32)] [] hf35 (by kernel_rfl) trivial fun a38 hf39 => ?_
  refine endL rfl ?_
  have hm40 := hm37.sel [] _ rfl (by kernel_rfl)
  refine thenN ?_
  refine wp_ret ?_
  have hm41 : Mem [] M w0 [] w33 := hm40.sel [] _ rfl (by kernel_rfl)
  obtain rfl := Option.some.inj H0
  refine ret [] [.float .f64 b32] [] hf39 (by kernel_rfl) trivial ?_
  exact ⟨_, rfl, b32, rfl, hb32, hm41⟩

/-! ### backstitch/tensor.Map -/
noncomputable def tensor_Map_law3_adder_add.l0 (r46 : Tensor) (f1_0 : Adder) (s73 : (Int × (List Nat))) : Step (Int × (List Nat)) (Int × (List Nat)) :=
  if s73.1 < (r46.Data.length : Int) then (if 0 ≤ s73.1 ∧ s73.1 < (s73.2.length : Int) then (bindS (law3_adder_add.f f1_0 (rd s73.2 s73.1)) fun r88 =>
  .next ((w64 (s73.1 + 1)), (put s73.2 s73.1 r88)))
  else .bad)
  else (.done (s73.1, s73.2))
noncomputable def tensor_Map_law3_adder_add.f (x0 : Tensor) (f1_0 : Adder) : Option Tensor :=
  (tensor_May.f x0).bind fun r35 =>
  if r35 = true then ((tensor_Copy.f x0).bind fun r46 =>
  (loop (tensor_Map_law3_adder_add.l0 r46 f1_0) (0, r46.Data)).bind fun r74 =>
  some (⟨r46.Shape, r74.2⟩ : Tensor))
  else (some (⟨([] : (List Int)), ([] : (List Nat))⟩ : Tensor))
set_option maxRecDepth 100000 in
set_option maxHeartbeats 4000000 in
theorem tensor_Map_law3_adder_add.calls (M : List (Option Nat)) (w0 : World) (x0 : Tensor) (A0_0 : Option Addr) (n0_0 c0_0 : Nat) (e0_0 : n0_0 = x0.Shape.length) (A0_1 : Option Addr) (n0_1 c0_1 : Nat) (e0_1 : n0_1 = x0.Data.length) (f1_0 : Adder) (b1_0_0 : Nat) (h1_0_0 : FR b1_0_0 f1_0.X) (hm0 : Mem [] M w0 [.sl (Kd.int .i64) A0_0 c0_0 x0.Shape, .sl Kd.float A0_1 c0_1 x0.Data] w0) (r : Tensor) (H0 : tensor_Map_law3_adder_add.f x0 f1_0 = some r) :
    Calls Try.prog 9 [.agg #[.slice A0_0 n0_0 c0_0, .slice A0_1 n0_1 c0_1], .func (.func 10) #[.agg #[.float .f64 b1_0_0]] #[]].toArray w0 (fun x w' => ∃ v, x = .returned v ∧ ∃ Ar0_0 cr0_0 Ar0_1 cr0_1, v = .agg #[.slice Ar0_0 r.Shape.length cr0_0, .slice Ar0_1 r.Data.length cr0_1] ∧ Mem [] M w0 [.ow (Kd.int .i64) 3 Ar0_0 cr0_0 r.Shape, .ow Kd.float 26 Ar0_1 cr0_1 r.Data] w') := by
  subst e0_0
  subst e0_1
  unfold tensor_Map_law3_adder_add.f at H0
  refine enter (n := 35) Try.func9 rfl rfl (by kernel_rfl) fun a0 (hf0 : Fr 35 a0 [(0, .agg #[.slice A0_0 x0.Shape.length c0_0, .slice A0_1 x0.Data.length c0_1]), (1, .func (.func 10) #[.agg #[.float .f64 b1_0_0]] #[])]) => ?_
  refine wp_seq ?_
  refine inReg ?_
  refine listOf hf0 rfl (by kernel_rfl) (aNew (cs := [.slice A0_0 x0.Shape.length c0_0, .slice A0_1 x0.Data.length c0_1]) (T := 25) (d := 2) hf0 (by kernel_rfl) (by kernel_rfl) ?_)
  intro b21 w22 a23 hbb21 hx25 hg26 hf24
  have hm27 := hm0.box hbb21 hx25 hg26
  refine listOf hf24 rfl (by kernel_rfl) (aNew (cs := [.slice none 0 0, .slice none 0 0]) (T := 25) (d := 4) hf24 (by kernel_rfl) (by kernel_rfl) ?_)
  intro b28 w29 a30 hbb28 hx32 hg33 hf31
  have hm34 := hm27.box hbb28 hx32 hg33
  refine endL rfl ?_
  refine thenN ?_
  refine wp_seq ?_
  refine wp_seq ?_
  obtain ⟨r35, hr35, H0⟩ := ob_split H0
  rcases ifb_split H0 with ⟨c36, H0⟩ | ⟨c36, H0⟩
  rotate_left
  · refine inReg ?_
    refine go 1 [.agg #[.slice A0_0 x0.Shape.length c0_0, .slice A0_1 x0.Data.length c0_1]] [1, 2, 4, 8] [(1, .func (.func 10) #[.agg #[.float .f64 b1_0_0]] #[]), (2, .pointer (some ⟨b21, 0, none⟩)), (4, .pointer (some ⟨b28, 0, none⟩)), (8, .agg #[.slice A0_0 x0.Shape.length c0_0, .slice A0_1 x0.Data.length c0_1])] [.cell ⟨b21, 0, none⟩ (.slice A0_0 x0.Shape.length c0_0), .cell ⟨b21, 1, none⟩ (.slice A0_1 x0.Data.length c0_1)] hf31 (by kernel_rfl) ⟨(hm34.cell 1 rfl rfl), (hm34.cell 1 rfl rfl), trivial⟩ fun a159 hf160 => ?_
    refine listOf hf160 rfl (by kernel_rfl) (aCall (fid := 25) (args := [.agg #[.slice A0_0 x0.Shape.length c0_0, .slice A0_1 x0.Data.length c0_1]]) (d := 9) hf160 (by kernel_rfl) (by kernel_rfl) callable25 (tensor_May.calls _ _ x0 A0_0 x0.Shape.length c0_0 rfl A0_1 x0.Data.length c0_1 rfl (hm34.give [2, 3] [.sl (Kd.int .i64) A0_0 c0_0 x0.Shape, .sl Kd.float A0_1 c0_1 x0.Data] rfl rfl) r35 hr35) ?_)
    rintro _ w161 a162 ⟨rfl, hk164⟩ hf163
    have hm165 := hm34.still hk164.cum.none
    rw [c36] at hf163
    refine go 5 [] [1, 2, 4, 14] [(1, .func (.func 10) #[.agg #[.float .f64 b1_0_0]] #[]), (2, .pointer (some ⟨b21, 0, none⟩)), (4, .pointer (some ⟨b28, 0, none⟩)), (14, .bool true)] [] hf163 (by kernel_rfl) trivial fun a166 hf167 => ?_
    refine endL rfl ?_
    refine thenN ?_
    refine condT hf167 (by kernel_rfl) ?_
    refine wp_seq ?_
    refine inReg ?_
    refine go 1 [] [4, 15] [(4, .pointer (some ⟨b28, 0, none⟩)), (15, .agg #[.slice none 0 0, .slice none 0 0])] [] hf167 (by kernel_rfl) trivial fun a168 hf169 => ?_
    refine listOf hf169 rfl (by kernel_rfl) (aStoreB (b := b28) (j := 0) (T := 25) (cs := [.slice none 0 0, .slice none 0 0]) (us := [.slice none 0 0, .slice none 0 0]) (cs' := [.slice none 0 0, .slice none 0 0]) hf169 (by kernel_rfl) (hm165.bxAt 0 rfl) (by kernel_rfl) (by kernel_rfl) (by kernel_rfl) ?_)
    intro w170 hx171 hg172
    have hm173 := hm165.setBox 0 _ rfl rfl hx171 hg172
    refine endL rfl ?_
    have hm174 := hm173.sel [0] _ rfl (by kernel_rfl)
    refine thenN ?_
    refine wp_ret ?_
    refine thenR ?_
    have hm175 := hm174.nilOw (Kd.int .i64) 3
    have hm176 := hm175.nilOw Kd.float 26
    have hm177 : Mem [] M w0 [.ow (Kd.int .i64) 3 none 0 ([] : (List Int)), .ow Kd.float 26 none 0 ([] : (List Nat))] w170 := hm176.sel [1, 0] _ rfl (by kernel_rfl)
    obtain rfl := Option.some.inj H0
    refine ret [.agg #[.slice none 0 0, .slice none 0 0]] [.agg #[.slice none 0 0, .slice none 0 0]] [.cell ⟨b28, 0, none⟩ (.slice none 0 0), .cell ⟨b28, 1, none⟩ (.slice none 0 0)] hf169 (by kernel_rfl) ⟨(hm174.cell 0 rfl rfl), (hm174.cell 0 rfl rfl), trivial⟩ ?_
    exact ⟨_, rfl, none, 0, none, 0, rfl, hm177⟩
  refine inReg ?_
  refine go 1 [.agg #[.slice A0_0 x0.Shape.length c0_0, .slice A0_1 x0.Data.length c0_1]] [1, 2, 4, 8] [(1, .func (.func 10) #[.agg #[.float .f64 b1_0_0]] #[]), (2, .pointer (some ⟨b21, 0, none⟩)), (4, .pointer (some ⟨b28, 0, none⟩)), (8, .agg #[.slice A0_0 x0.Shape.length c0_0, .slice A0_1 x0.Data.length c0_1])] [.cell ⟨b21, 0, none⟩ (.slice A0_0 x0.Shape.length c0_0), .cell ⟨b21, 1, none⟩ (.slice A0_1 x0.Data.length c0_1)] hf31 (by kernel_rfl) ⟨(hm34.cell 1 rfl rfl), (hm34.cell 1 rfl rfl), trivial⟩ fun a37 hf38 => ?_
  refine listOf hf38 rfl (by kernel_rfl) (aCall (fid := 25) (args := [.agg #[.slice A0_0 x0.Shape.length c0_0, .slice A0_1 x0.Data.length c0_1]]) (d := 9) hf38 (by kernel_rfl) (by kernel_rfl) callable25 (tensor_May.calls _ _ x0 A0_0 x0.Shape.length c0_0 rfl A0_1 x0.Data.length c0_1 rfl (hm34.give [2, 3] [.sl (Kd.int .i64) A0_0 c0_0 x0.Shape, .sl Kd.float A0_1 c0_1 x0.Data] rfl rfl) r35 hr35) ?_)
  rintro _ w39 a40 ⟨rfl, hk42⟩ hf41
  have hm43 := hm34.still hk42.cum.none
  rw [c36] at hf41
  refine go 5 [] [1, 2, 4, 14] [(1, .func (.func 10) #[.agg #[.float .f64 b1_0_0]] #[]), (2, .pointer (some ⟨b21, 0, none⟩)), (4, .pointer (some ⟨b28, 0, none⟩)), (14, .bool false)] [] hf41 (by kernel_rfl) trivial fun a44 hf45 => ?_
  refine endL rfl ?_
  refine thenN ?_
  refine condF hf45 (by kernel_rfl) ?_
  refine wp_skip ?_
  refine thenN ?_
  refine wp_seq ?_
  obtain ⟨r46, hr46, H0⟩ := ob_split H0
  refine inReg ?_
  refine go 1 [.agg #[.slice A0_0 x0.Shape.length c0_0, .slice A0_1 x0.Data.length c0_1]] [1, 4, 16] [(1, .func (.func 10) #[.agg #[.float .f64 b1_0_0]] #[]), (4, .pointer (some ⟨b28, 0, none⟩)), (16, .agg #[.slice A0_0 x0.Shape.length c0_0, .slice A0_1 x0.Data.length c0_1])] [.cell ⟨b21, 0, none⟩ (.slice A0_0 x0.Shape.length c0_0), .cell ⟨b21, 1, none⟩ (.slice A0_1 x0.Data.length c0_1)] hf45 (by kernel_rfl) ⟨(hm43.cell 1 rfl rfl), (hm43.cell 1 rfl rfl), trivial⟩ fun a47 hf48 => ?_
  refine listOf hf48 rfl (by kernel_rfl) (aCall (fid := 28) (args := [.agg #[.slice A0_0 x0.Shape.length c0_0, .slice A0_1 x0.Data.length c0_1]]) (d := 17) hf48 (by kernel_rfl) (by kernel_rfl) callable28 (tensor_Copy.calls _ _ x0 A0_0 x0.Shape.length c0_0 rfl A0_1 x0.Data.length c0_1 rfl (hm43.give [2, 3] [.sl (Kd.int .i64) A0_0 c0_0 x0.Shape, .sl Kd.float A0_1 c0_1 x0.Data] rfl rfl) r46 hr46) ?_)
  rintro _ w53 a54 ⟨A49, c50, A51, c52, rfl, hk56⟩ hf55
  have hm57 := hm43.back hk56
  refine listOf hf55 rfl (by kernel_rfl) (aNew (cs := [.slice none 0 0, .slice none 0 0]) (T := 25) (d := 5) hf55 (by kernel_rfl) (by kernel_rfl) ?_)
  intro b58 w59 a60 hbb58 hx62 hg63 hf61
  have hm65 := hm57.box hbb58 hx62 hg63
  refine listOf hf61 rfl (by kernel_rfl) (aStoreB (b := b58) (j := 0) (T := 25) (cs := [.slice none 0 0, .slice none 0 0]) (us := [.slice A49 r46.Shape.length c50, .slice A51 r46.Data.length c52]) (cs' := [.slice A49 r46.Shape.length c50, .slice A51 r46.Data.length c52]) hf61 (by kernel_rfl) (hm65.bxAt 0 rfl) (by kernel_rfl) (by kernel_rfl) (by kernel_rfl) ?_)
  intro w66 hx67 hg68
  have hm69 := hm65.setBox 0 _ rfl rfl hx67 hg68
  refine endL rfl ?_
  have hm70 := hm69.sel [0, 1, 2, 3] _ rfl (by kernel_rfl)
  refine thenN ?_
  refine wp_seq ?_
  refine wp_seq ?_
  refine reg [.slice A51 r46.Data.length c52] [1, 4, 5, 19, 20, 21] [(1, .func (.func 10) #[.agg #[.float .f64 b1_0_0]] #[]), (4, .pointer (some ⟨b28, 0, none⟩)), (5, .pointer (some ⟨b58, 0, none⟩)), (19, .slice A51 r46.Data.length c52), (20, .int .i64 (r46.Data.length : Int)), (21, .int .i64 0)] [.cell ⟨b58, 1, none⟩ (.slice A51 r46.Data.length c52)] hf61 (by kernel_rfl) ⟨(hm70.cell 0 rfl rfl), trivial⟩ fun a71 hf72 => ?_
  refine thenN ?_
  obtain ⟨r74, hr74, H0⟩ := ob_split H0
  refine wpBlock (Mid := fun (a : Act) (w : World) => Fr 35 a [(1, .func (.func 10) #[.agg #[.float .f64 b1_0_0]] #[]), (4, .pointer (some ⟨b28, 0, none⟩)), (5, .pointer (some ⟨b58, 0, none⟩)), (19, .slice A51 r74.2.length c52), (20, .int .i64 (r46.Data.length : Int)), (21, .int .i64 r74.1)] ∧ Mem [] M w0 [.bx b58 [.slice A49 r46.Shape.length c50, .slice A51 r74.2.length c52] 25, .ow (Kd.int .i64) 3 A49 c50 r46.Shape, .ow Kd.float 26 A51 c52 r74.2, .bx b28 [.slice none 0 0, .slice none 0 0] 25] w) ?_ ?_
  · refine wpLoop (tensor_Map_law3_adder_add.l0 r46 f1_0) r74 (fun (s73 : (Int × (List Nat))) (a : Act) (w : World) => Fr 35 a [(1, .func (.func 10) #[.agg #[.float .f64 b1_0_0]] #[]), (4, .pointer (some ⟨b28, 0, none⟩)), (5, .pointer (some ⟨b58, 0, none⟩)), (19, .slice A51 s73.2.length c52), (20, .int .i64 (r46.Data.length : Int)), (21, .int .i64 s73.1)] ∧ Mem [] M w0 [.bx b58 [.slice A49 r46.Shape.length c50, .slice A51 s73.2.length c52] 25, .ow (Kd.int .i64) 3 A49 c50 r46.Shape, .ow Kd.float 26 A51 c52 s73.2, .bx b28 [.slice none 0 0, .slice none 0 0] 25] w) (0, r46.Data) hr74 ⟨hf72.sel (l := [1, 4, 5, 19, 20, 21]) (by kernel_rfl), hm70.sel [0, 1, 2, 3] _ rfl (by kernel_rfl)⟩ ?_
    rintro g75 s73 a76 w77 H1 ⟨hf78, hm79⟩
    unfold tensor_Map_law3_adder_add.l0 at H1
    refine wp_seq ?_
    rcases ifS_split H1 with ⟨c80, H1⟩ | ⟨c80, H1⟩
    rotate_left
    · refine reg [.bool false] [1, 4, 5, 19, 20, 21, 22] [(1, .func (.func 10) #[.agg #[.float .f64 b1_0_0]] #[]), (4, .pointer (some ⟨b28, 0, none⟩)), (5, .pointer (some ⟨b58, 0, none⟩)), (19, .slice A51 s73.2.length c52), (20, .int .i64 (r46.Data.length : Int)), (21, .int .i64 s73.1), (22, .bool false)] [.is (decide (s73.1 < (r46.Data.length : Int)) = false)] hf78 (by kernel_rfl) ⟨(decide_eq_false c80), trivial⟩ fun a144 hf145 => ?_
      refine thenN ?_
      refine wp_seq ?_
      refine condF hf145 (by kernel_rfl) ?_
      refine wp_exit ?_
      refine thenE ?_
      refine thenE ?_
      obtain rfl := Option.some.inj H1
      exact .inl ⟨rfl, hf145.sel (l := [1, 4, 5, 19, 20, 21]) (by kernel_rfl), hm79.sel [0, 1, 2, 3] _ rfl (by kernel_rfl)⟩
    refine reg [.bool true] [1, 4, 5, 19, 20, 21, 22] [(1, .func (.func 10) #[.agg #[.float .f64 b1_0_0]] #[]), (4, .pointer (some ⟨b28, 0, none⟩)), (5, .pointer (some ⟨b58, 0, none⟩)), (19, .slice A51 s73.2.length c52), (20, .int .i64 (r46.Data.length : Int)), (21, .int .i64 s73.1), (22, .bool true)] [.is (decide (s73.1 < (r46.Data.length : Int)) = true)] hf78 (by kernel_rfl) ⟨(decide_eq_true c80), trivial⟩ fun a81 hf82 => ?_
    refine thenN ?_
    refine wp_seq ?_
    refine condT hf82 (by kernel_rfl) ?_
    refine wp_skip ?_
    refine thenN ?_
    refine wp_seq ?_
    refine wp_block ?_
    refine wp_seq ?_
    obtain ⟨g83, H1⟩ := ifS_guard H1
    have q84 := (hm79.owAt 2 rfl).float s73.1 g83.1 g83.2
    obtain ⟨b85, hb85, kb85⟩ := q84.2
    refine reg [.float .f64 b85] [1, 4, 5, 6, 7, 19, 20, 21] [(1, .func (.func 10) #[.agg #[.float .f64 b1_0_0]] #[]), (4, .pointer (some ⟨b28, 0, none⟩)), (5, .pointer (some ⟨b58, 0, none⟩)), (6, .int .i64 s73.1), (7, .float .f64 b85), (19, .slice A51 s73.2.length c52), (20, .int .i64 (r46.Data.length : Int)), (21, .int .i64 s73.1)] [.is (Option.isSome A51 = true), .is (0 ≤ s73.1 ∧ s73.1 < (s73.2.length : Int)), .cell ((ad A51).add ((s73.1).toNat * 1)) (.float .f64 b85)] hf82 (by kernel_rfl) ⟨q84.1, g83, kb85, trivial⟩ fun a86 hf87 => ?_
    refine thenN ?_
    obtain ⟨r88, hr88, H1⟩ := obS_split H1
    refine midReg (fun (a : Act) (w : World) => Fr 35 a [(1, .func (.func 10) #[.agg #[.float .f64 b1_0_0]] #[]), (4, .pointer (some ⟨b28, 0, none⟩)), (5, .pointer (some ⟨b58, 0, none⟩)), (19, .slice A51 s73.2.length c52), (20, .int .i64 (r46.Data.length : Int)), (21, .int .i64 s73.1)] ∧ Mem [] M w0 [.bx b58 [.slice A49 r46.Shape.length c50, .slice A51 s73.2.length c52] 25, .ow (Kd.int .i64) 3 A49 c50 r46.Shape, .ow Kd.float 26 A51 c52 (put s73.2 s73.1 r88), .bx b28 [.slice none 0 0, .slice none 0 0] 25] w) ?_ ?_
    · refine anyG [7] (by kernel_rfl) fun w101 hg102 => ?_
      have hm103 := hm79.still hg102
      refine quiet0 [0, 1, 2, 3, 4] [.slice A51 s73.2.length c52] [1, 4, 5, 19, 20, 21, 27, 28, 29, 30] #[true, true, true, true, true, false, false, false] [(1, .func (.func 10) #[.agg #[.float .f64 b1_0_0]] #[]), (4, .pointer (some ⟨b28, 0, none⟩)), (5, .pointer (some ⟨b58, 0, none⟩)), (19, .slice A51 s73.2.length c52), (20, .int .i64 (r46.Data.length : Int)), (21, .int .i64 s73.1), (27, .slice A51 s73.2.length c52), (28, .int .i64 s73.1), (29, .func (.func 10) #[.agg #[.float .f64 b1_0_0]] #[]), (30, .float .f64 b85)] [.cell ⟨b58, 1, none⟩ (.slice A51 s73.2.length c52)] 3 rfl (by kernel_rfl) (fun _ _ _ _ _ h => nomatch h.1) hf87 (by kernel_rfl) ⟨(hm103.cell 0 rfl rfl), trivial⟩ fun a120 hf121 => ?_
      refine all1 5 (by kernel_rfl) ?_
      refine opOf hf121 rfl (by kernel_rfl) (aCall (fid := 10) (args := [.agg #[.float .f64 b1_0_0], .float .f64 b85]) (d := 31) hf121 (by kernel_rfl) (by kernel_rfl) callable10 (law3_adder_add.calls _ _ f1_0 b1_0_0 h1_0_0 (rd s73.2 s73.1) b85 hb85 (hm103.give [] [] rfl rfl) r88 hr88) ?_)
      rintro _ w123 a124 ⟨b122, rfl, hb122, hk126⟩ hf125
      refine ⟨.inr (Gr.still hk126.cum.none), ?_⟩
      have hm127 := hm103.still hk126.cum.none
      have q128 := (hm127.owAt 2 rfl).float s73.1 g83.1 g83.2
      obtain ⟨b129, hb129, kb129⟩ := q128.2
      refine quiet0 [6] [] [1, 4, 5, 19, 20, 21, 31, 32] #[true, true, true, true, true, true, true, false] [(1, .func (.func 10) #[.agg #[.float .f64 b1_0_0]] #[]), (4, .pointer (some ⟨b28, 0, none⟩)), (5, .pointer (some ⟨b58, 0, none⟩)), (19, .slice A51 s73.2.length c52), (20, .int .i64 (r46.Data.length : Int)), (21, .int .i64 s73.1), (31, .float .f64 b122), (32, .pointer (some ((ad A51).add ((s73.1).toNat * 1))))] [.is (Option.isSome A51 = true), .is (0 ≤ s73.1 ∧ s73.1 < (s73.2.length : Int))] 1 rfl (by kernel_rfl) (fun _ _ _ _ _ h => nomatch h.1) hf125 (by kernel_rfl) ⟨q128.1, g83, trivial⟩ fun a130 hf131 => ?_
      refine all1 7 (by kernel_rfl) ?_
      refine opOf hf131 rfl (by kernel_rfl) (aStoreO (kd := Kd.float) (base := 0) (E := 26) (A := A51) (c := c52) (xs := s73.2) (i := s73.1) (x := r88) (us := [.float .f64 b122]) (sz := 1) hf131 (by kernel_rfl) rfl (by kernel_rfl) (hm127.at 2 rfl) ⟨_, rfl, hb122⟩ g83.1 g83.2 ?_)
      intro w132 hx133 hg134
      refine ⟨.inl (by decide), ?_⟩
      have hm135 := hm127.setOwn 2 _ rfl rfl hx133 hg134 (.inl rfl)
      refine allDone (by kernel_rfl) ⟨rfl, hf131.sel (l := [1, 4, 5, 19, 20, 21]) (by kernel_rfl), hm135.sel [0, 1, 2, 3] _ rfl (by kernel_rfl)⟩
    rintro a136 w137 ⟨hf138, hm139⟩
    refine blkN ?_
    refine thenN ?_
    refine reg [] [1, 4, 5, 19, 20, 21] [(1, .func (.func 10) #[.agg #[.float .f64 b1_0_0]] #[]), (4, .pointer (some ⟨b28, 0, none⟩)), (5, .pointer (some ⟨b58, 0, none⟩)), (19, .slice A51 s73.2.length c52), (20, .int .i64 (r46.Data.length : Int)), (21, .int .i64 (w64 (s73.1 + 1)))] [] hf138 (by kernel_rfl) trivial fun a140 hf141 => ?_
    have hf142 : Fr 35 a140 [(1, .func (.func 10) #[.agg #[.float .f64 b1_0_0]] #[]), (4, .pointer (some ⟨b28, 0, none⟩)), (5, .pointer (some ⟨b58, 0, none⟩)), (19, .slice A51 s73.2.length c52), (20, .int .i64 (r46.Data.length : Int)), (21, .int .i64 (w64 (s73.1 + 1)))] := hf141.sel (l := [1, 4, 5, 19, 20, 21]) (by kernel_rfl)
    have hm143 : Mem [] M w0 [.bx b58 [.slice A49 r46.Shape.length c50, .slice A51 s73.2.length c52] 25, .ow (Kd.int .i64) 3 A49 c50 r46.Shape, .ow Kd.float 26 A51 c52 (put s73.2 s73.1 r88), .bx b28 [.slice none 0 0, .slice none 0 0] 25] w137 := hm139.sel [0, 1, 2, 3] _ rfl (by kernel_rfl)
    exact ⟨((w64 (s73.1 + 1)), (put s73.2 s73.1 r88)), H1, (by simpa only [put_length, List.length_nil] using hf142), (by simpa only [put_length, List.length_nil] using hm143)⟩
  rintro a146 w147 ⟨hf148, hm149⟩
  refine thenN ?_
  refine wp_seq ?_
  refine inReg ?_
  refine go 1 [.agg #[.slice A49 r46.Shape.length c50, .slice A51 r74.2.length c52]] [4, 34] [(4, .pointer (some ⟨b28, 0, none⟩)), (34, .agg #[.slice A49 r46.Shape.length c50, .slice A51 r74.2.length c52])] [.cell ⟨b58, 0, none⟩ (.slice A49 r46.Shape.length c50), .cell ⟨b58, 1, none⟩ (.slice A51 r74.2.length c52)] hf148 (by kernel_rfl) ⟨(hm149.cell 0 rfl rfl), (hm149.cell 0 rfl rfl), trivial⟩ fun a150 hf151 => ?_
  refine listOf hf151 rfl (by kernel_rfl) (aStoreB (b := b28) (j := 0) (T := 25) (cs := [.slice none 0 0, .slice none 0 0]) (us := [.slice A49 r46.Shape.length c50, .slice A51 r74.2.length c52]) (cs' := [.slice A49 r46.Shape.length c50, .slice A51 r74.2.length c52]) hf151 (by kernel_rfl) (hm149.bxAt 3 rfl) (by kernel_rfl) (by kernel_rfl) (by kernel_rfl) ?_)
  intro w152 hx153 hg154
  have hm155 := hm149.setBox 3 _ rfl rfl hx153 hg154
  refine endL rfl ?_
  have hm156 := hm155.sel [1, 2, 3] _ rfl (by kernel_rfl)
  refine thenN ?_
  refine wp_ret ?_
  have hm157 : Mem [] M w0 [.ow (Kd.int .i64) 3 A49 c50 r46.Shape, .ow Kd.float 26 A51 c52 r74.2] w152 := hm156.sel [0, 1] _ rfl (by kernel_rfl)
  obtain rfl := Option.some.inj H0
  refine ret [.agg #[.slice A49 r46.Shape.length c50, .slice A51 r74.2.length c52]] [.agg #[.slice A49 r46.Shape.length c50, .slice A51 r74.2.length c52]] [.cell ⟨b28, 0, none⟩ (.slice A49 r46.Shape.length c50), .cell ⟨b28, 1, none⟩ (.slice A51 r74.2.length c52)] hf151 (by kernel_rfl) ⟨(hm156.cell 2 rfl rfl), (hm156.cell 2 rfl rfl), trivial⟩ ?_
  exact ⟨_, rfl, A49, c50, A51, c52, rfl, hm157⟩

/-! ### math.Sqrt -/
noncomputable def math_Sqrt.f (x0 : Nat) : Option Nat :=
  some (fsqrt x0)
set_option maxRecDepth 100000 in
set_option maxHeartbeats 4000000 in
theorem math_Sqrt.calls (M : List (Option Nat)) (w0 : World) (x0 : Nat) (b0 : Nat) (h0 : FR b0 x0) (hm0 : Mem [] M w0 [] w0) (r : Nat) (H0 : math_Sqrt.f x0 = some r) :
    Calls Try.prog 11 [.float .f64 b0].toArray w0 (fun x w' => ∃ v, x = .returned v ∧ ∃ br0, v = .float .f64 br0 ∧ FR br0 r ∧ Mem [] M w0 [] w') := by
  unfold math_Sqrt.f at H0
  refine enter (n := 5) Try.func11 rfl rfl (by kernel_rfl) fun a0 (hf0 : Fr 5 a0 [(0, .float .f64 b0)]) => ?_
  refine wp_seq ?_
  refine reg [] [0] [(0, .float .f64 b0)] [] hf0 (by kernel_rfl) trivial fun a21 hf22 => ?_
  refine thenN ?_
  refine wp_seq ?_
  refine inReg ?_
  refine go 1 [] [3] [(3, .float .f64 b0)] [] hf22 (by kernel_rfl) trivial fun a23 hf24 => ?_
  refine listOf hf24 rfl (by kernel_rfl) (aExtern (fid := 29) (args := [.float .f64 b0]) (d := 4) (R := fun v w' => ∃ r, v = .float .f64 r ∧ FR r (fsqrt x0) ∧ w0.grownBy w' none) hf24 (by kernel_rfl) (by kernel_rfl) ⟨_, Try.func29, rfl, rfl, by kernel_rfl, rfl⟩ (run_sqrt h0) ?_)
  rintro _ w26 a27 ⟨b25, rfl, hb25, hg29⟩ hf28
  have hm30 := hm0.still hg29
  refine go 1 [] [2] [(2, .float .f64 b25)] [] hf28 (by kernel_rfl) trivial fun a31 hf32 => ?_
  refine endL rfl ?_
  refine thenN ?_
  refine wp_ret ?_
  have hm33 : Mem [] M w0 [] w26 := hm30.sel [] _ rfl (by kernel_rfl)
  obtain rfl := Option.some.inj H0
  refine ret [] [.float .f64 b25] [] hf32 (by kernel_rfl) trivial ?_
  exact ⟨_, rfl, b25, rfl, hb25, hm33⟩

/-! ### backstitch/tensor.Map -/
noncomputable def tensor_Map_math_Sqrt.l0 (r46 : Tensor) (s73 : (Int × (List Nat))) : Step (Int × (List Nat)) (Int × (List Nat)) :=
  if s73.1 < (r46.Data.length : Int) then (if 0 ≤ s73.1 ∧ s73.1 < (s73.2.length : Int) then (bindS (math_Sqrt.f (rd s73.2 s73.1)) fun r88 =>
  .next ((w64 (s73.1 + 1)), (put s73.2 s73.1 r88)))
  else .bad)
  else (.done (s73.1, s73.2))
noncomputable def tensor_Map_math_Sqrt.f (x0 : Tensor) : Option Tensor :=
  (tensor_May.f x0).bind fun r35 =>
  if r35 = true then ((tensor_Copy.f x0).bind fun r46 =>
  (loop (tensor_Map_math_Sqrt.l0 r46) (0, r46.Data)).bind fun r74 =>
  some (⟨r46.Shape, r74.2⟩ : Tensor))
  else (some (⟨([] : (List Int)), ([] : (List Nat))⟩ : Tensor))
set_option maxRecDepth 100000 in
set_option maxHeartbeats 4000000 in
theorem tensor_Map_math_Sqrt.calls (M : List (Option Nat)) (w0 : World) (x0 : Tensor) (A0_0 : Option Addr) (n0_0 c0_0 : Nat) (e0_0 : n0_0 = x0.Shape.length) (A0_1 : Option Addr) (n0_1 c0_1 : Nat) (e0_1 : n0_1 = x0.Data.length) (hm0 : Mem [] M w0 [.sl (Kd.int .i64) A0_0 c0_0 x0.Shape, .sl Kd.float A0_1 c0_1 x0.Data] w0) (r : Tensor) (H0 : tensor_Map_math_Sqrt.f x0 = some r) :
    Calls Try.prog 9 [.agg #[.slice A0_0 n0_0 c0_0, .slice A0_1 n0_1 c0_1], .func (.func 11) #[] #[]].toArray w0 (fun x w' => ∃ v, x = .returned v ∧ ∃ Ar0_0 cr0_0 Ar0_1 cr0_1, v = .agg #[.slice Ar0_0 r.Shape.length cr0_0, .slice Ar0_1 r.Data.length cr0_1] ∧ Mem [] M w0 [.ow (Kd.int .i64) 3 Ar0_0 cr0_0 r.Shape, .ow Kd.float 26 Ar0_1 cr0_1 r.Data] w') := by
  subst e0_0
  subst e0_1
  unfold tensor_Map_math_Sqrt.f at H0
  refine enter (n := 35) Try.func9 rfl rfl (by kernel_rfl) fun a0 (hf0 : Fr 35 a0 [(0, .agg #[.slice A0_0 x0.Shape.length c0_0, .slice A0_1 x0.Data.length c0_1]), (1, .func (.func 11) #[] #[])]) => ?_
  refine wp_seq ?_
  refine inReg ?_
  refine listOf hf0 rfl (by kernel_rfl) (aNew (cs := [.slice A0_0 x0.Shape.length c0_0, .slice A0_1 x0.Data.length c0_1]) (T := 25) (d := 2) hf0 (by kernel_rfl) (by kernel_rfl) ?_)
  intro b21 w22 a23 hbb21 hx25 hg26 hf24
  have hm27 := hm0.box hbb21 hx25 hg26
  refine listOf hf24 rfl (by kernel_rfl) (aNew (cs := [.slice none 0 0, .slice none 0 0]) (T := 25) (d := 4) hf24 (by kernel_rfl) (by kernel_rfl) ?_)
  intro b28 w29 a30 hbb28 hx32 hg33 hf31
  have hm34 := hm27.box hbb28 hx32 hg33
  refine endL rfl ?_
  refine thenN ?_
  refine wp_seq ?_
  refine wp_seq ?_
  obtain ⟨r35, hr35, H0⟩ := ob_split H0
  rcases ifb_split H0 with ⟨c36, H0⟩ | ⟨c36, H0⟩
  rotate_left
  · refine inReg ?_
    refine go 1 [.agg #[.slice A0_0 x0.Shape.length c0_0, .slice A0_1 x0.Data.length c0_1]] [1, 2, 4, 8] [(1, .func (.func 11) #[] #[]), (2, .pointer (some ⟨b21, 0, none⟩)), (4, .pointer (some ⟨b28, 0, none⟩)), (8, .agg #[.slice A0_0 x0.Shape.length c0_0, .slice A0_1 x0.Data.length c0_1])] [.cell ⟨b21, 0, none⟩ (.slice A0_0 x0.Shape.length c0_0), .cell ⟨b21, 1, none⟩ (.slice A0_1 x0.Data.length c0_1)] hf31 (by kernel_rfl) ⟨(hm34.cell 1 rfl rfl), (hm34.cell 1 rfl rfl), trivial⟩ fun a159 hf160 => ?_
    refine listOf hf160 rfl (by kernel_rfl) (aCall (fid := 25) (args := [.agg #[.slice A0_0 x0.Shape.length c0_0, .slice A0_1 x0.Data.length c0_1]]) (d := 9) hf160 (by kernel_rfl) (by kernel_rfl) callable25 (tensor_May.calls _ _ x0 A0_0 x0.Shape.length c0_0 rfl A0_1 x0.Data.length c0_1 rfl (hm34.give [2, 3] [.sl (Kd.int .i64) A0_0 c0_0 x0.Shape, .sl Kd.float A0_1 c0_1 x0.Data] rfl rfl) r35 hr35) ?_)
    rintro _ w161 a162 ⟨rfl, hk164⟩ hf163
    have hm165 := hm34.still hk164.cum.none
    rw [c36] at hf163
    refine go 5 [] [1, 2, 4, 14] [(1, .func (.func 11) #[] #[]), (2, .pointer (some ⟨b21, 0, none⟩)), (4, .pointer (some ⟨b28, 0, none⟩)), (14, .bool true)] [] hf163 (by kernel_rfl) trivial fun a166 hf167 => ?_
    refine endL rfl ?_
    refine thenN ?_
    refine condT hf167 (by kernel_rfl) ?_
    refine wp_seq ?_
    refine inReg ?_
    refine go 1 [] [4, 15] [(4, .pointer (some ⟨b28, 0, none⟩)), (15, .agg #[.slice none 0 0, .slice none 0 0])] [] hf167 (by kernel_rfl) trivial fun a168 hf169 => ?_
    refine listOf hf169 rfl (by kernel_rfl) (aStoreB (b := b28) (j := 0) (T := 25) (cs := [.slice none 0 0, .slice none 0 0]) (us := [.slice none 0 0, .slice none 0 0]) (cs' := [.slice none 0 0, .slice none 0 0]) hf169 (by kernel_rfl) (hm165.bxAt 0 rfl) (by kernel_rfl) (by kernel_rfl) (by kernel_rfl) ?_)
    intro w170 hx171 hg172
    have hm173 := hm165.setBox 0 _ rfl rfl hx171 hg172
    refine endL rfl ?_
    have hm174 := hm173.sel [0] _ rfl (by kernel_rfl)
    refine thenN ?_
    refine wp_ret ?_
    refine thenR ?_
    have hm175 := hm174.nilOw (Kd.int .i64) 3
    have hm176 := hm175.nilOw Kd.float 26
    have hm177 : Mem [] M w0 [.ow (Kd.int .i64) 3 none 0 ([] : (List Int)), .ow Kd.float 26 none 0 ([] : (List Nat))] w170 := hm176.sel [1, 0] _ rfl (by kernel_rfl)
    obtain rfl := Option.some.inj H0
    refine ret [.agg #[.slice none 0 0, .slice none 0 0]] [.agg #[.slice none 0 0, .slice none 0 0]] [.cell ⟨b28, 0, none⟩ (.slice none 0 0), .cell ⟨b28, 1, none⟩ (.slice none 0 0)] hf169 (by kernel_rfl) ⟨(hm174.cell 0 rfl rfl), (hm174.cell 0 rfl rfl), trivial⟩ ?_
    exact ⟨_, rfl, none, 0, none, 0, rfl, hm177⟩
  refine inReg ?_
  refine go 1 [.agg #[.slice A0_0 x0.Shape.length c0_0, .slice A0_1 x0.Data.length c0_1]] [1, 2, 4, 8] [(1, .func (.func 11) #[] #[]), (2, .pointer (some ⟨b21, 0, none⟩)), (4, .pointer (some ⟨b28, 0, none⟩)), (8, .agg #[.slice A0_0 x0.Shape.length c0_0, .slice A0_1 x0.Data.length c0_1])] [.cell ⟨b21, 0, none⟩ (.slice A0_0 x0.Shape.length c0_0), .cell ⟨b21, 1, none⟩ (.slice A0_1 x0.Data.length c0_1)] hf31 (by kernel_rfl) ⟨(hm34.cell 1 rfl rfl), (hm34.cell 1 rfl rfl), trivial⟩ fun a37 hf38 => ?_
  refine listOf hf38 rfl (by kernel_rfl) (aCall (fid := 25) (args := [.agg #[.slice A0_0 x0.Shape.length c0_0, .slice A0_1 x0.Data.length c0_1]]) (d := 9) hf38 (by kernel_rfl) (by kernel_rfl) callable25 (tensor_May.calls _ _ x0 A0_0 x0.Shape.length c0_0 rfl A0_1 x0.Data.length c0_1 rfl (hm34.give [2, 3] [.sl (Kd.int .i64) A0_0 c0_0 x0.Shape, .sl Kd.float A0_1 c0_1 x0.Data] rfl rfl) r35 hr35) ?_)
  rintro _ w39 a40 ⟨rfl, hk42⟩ hf41
  have hm43 := hm34.still hk42.cum.none
  rw [c36] at hf41
  refine go 5 [] [1, 2, 4, 14] [(1, .func (.func 11) #[] #[]), (2, .pointer (some ⟨b21, 0, none⟩)), (4, .pointer (some ⟨b28, 0, none⟩)), (14, .bool false)] [] hf41 (by kernel_rfl) trivial fun a44 hf45 => ?_
  refine endL rfl ?_
  refine thenN ?_
  refine condF hf45 (by kernel_rfl) ?_
  refine wp_skip ?_
  refine thenN ?_
  refine wp_seq ?_
  obtain ⟨r46, hr46, H0⟩ := ob_split H0
  refine inReg ?_
  refine go 1 [.agg #[.slice A0_0 x0.Shape.length c0_0, .slice A0_1 x0.Data.length c0_1]] [1, 4, 16] [(1, .func (.func 11) #[] #[]), (4, .pointer (some ⟨b28, 0, none⟩)), (16, .agg #[.slice A0_0 x0.Shape.length c0_0, .slice A0_1 x0.Data.length c0_1])] [.cell ⟨b21, 0, none⟩ (.slice A0_0 x0.Shape.length c0_0), .cell ⟨b21, 1, none⟩ (.slice A0_1 x0.Data.length c0_1)] hf45 (by kernel_rfl) ⟨(hm43.cell 1 rfl rfl), (hm43.cell 1 rfl rfl), trivial⟩ fun a47 hf48 => ?_
  refine listOf hf48 rfl (by kernel_rfl) (aCall (fid := 28) (args := [.agg #[.slice A0_0 x0.Shape.length c0_0, .slice A0_1 x0.Data.length c0_1]]) (d := 17) hf48 (by kernel_rfl) (by kernel_rfl) callable28 (tensor_Copy.calls _ _ x0 A0_0 x0.Shape.length c0_0 rfl A0_1 x0.Data.length c0_1 rfl (hm43.give [2, 3] [.sl (Kd.int .i64) A0_0 c0_0 x0.Shape, .sl Kd.float A0_1 c0_1 x0.Data] rfl rfl) r46 hr46) ?_)
  rintro _ w53 a54 ⟨A49, c50, A51, c52, rfl, hk56⟩ hf55
  have hm57 := hm43.back hk56
  refine listOf hf55 rfl (by kernel_rfl) (aNew (cs := [.slice none 0 0, .slice none 0 0]) (T := 25) (d := 5) hf55 (by kernel_rfl) (by kernel_rfl) ?_)
  intro b58 w59 a60 hbb58 hx62 hg63 hf61
  have hm65 := hm57.box hbb58 hx62 hg63
  refine listOf hf61 rfl (by kernel_rfl) (aStoreB (b := b58) (j := 0) (T := 25) (cs := [.slice none 0 0, .slice none 0 0]) (us := [.slice A49 r46.Shape.length c50, .slice A51 r46.Data.length c52]) (cs' := [.slice A49 r46.Shape.length c50, .slice A51 r46.Data.length c52]) hf61 (by kernel_rfl) (hm65.bxAt 0 rfl) (by kernel_rfl) (by kernel_rfl) (by kernel_rfl) ?_)
  intro w66 hx67 hg68
  have hm69 := hm65.setBox 0 _ rfl rfl hx67 hg68
  refine endL rfl ?_
  have hm70 := hm69.sel [0, 1, 2, 3] _ rfl (by kernel_rfl)
  refine thenN ?_
  refine wp_seq ?_
  refine wp_seq ?_
  refine reg [.slice A51 r46.Data.length c52] [1, 4, 5, 19, 20, 21] [(1, .func (.func 11) #[] #[]), (4, .pointer (some ⟨b28, 0, none⟩)), (5, .pointer (some ⟨b58, 0, none⟩)), (19, .slice A51 r46.Data.length c52), (20, .int .i64 (r46.Data.length : Int)), (21, .int .i64 0)] [.cell ⟨b58, 1, none⟩ (.slice A51 r46.Data.length c52)] hf61 (by kernel_rfl) ⟨(hm70.cell 0 rfl rfl), trivial⟩ fun a71 hf72 => ?_
  refine thenN ?_
  obtain ⟨r74, hr74, H0⟩ := ob_split H0
  refine wpBlock (Mid := fun (a : Act) (w : World) => Fr 35 a [(1, .func (.func 11) #[] #[]), (4, .pointer (some ⟨b28, 0, none⟩)), (5, .pointer (some ⟨b58, 0, none⟩)), (19, .slice A51 r74.2.length c52), (20, .int .i64 (r46.Data.length : Int)), (21, .int .i64 r74.1)] ∧ Mem [] M w0 [.bx b58 [.slice A49 r46.Shape.length c50, .slice A51 r74.2.length c52] 25, .ow (Kd.int .i64) 3 A49 c50 r46.Shape, .ow Kd.float 26 A51 c52 r74.2, .bx b28 [.slice none 0 0, .slice none 0 0] 25] w) ?_ ?_
  · refine wpLoop (tensor_Map_math_Sqrt.l0 r46) r74 (fun (s73 : (Int × (List Nat))) (a : Act) (w : World) => Fr 35 a [(1, .func (.func 11) #[] #[]), (4, .pointer (some ⟨b28, 0, none⟩)), (5, .pointer (some ⟨b58, 0, none⟩)), (19, .slice A51 s73.2.length c52), (20, .int .i64 (r46.Data.length : Int)), (21, .int .i64 s73.1)] ∧ Mem [] M w0 [.bx b58 [.slice A49 r46.Shape.length c50, .slice A51 s73.2.length c52] 25, .ow (Kd.int .i64) 3 A49 c50 r46.Shape, .ow Kd.float 26 A51 c52 s73.2, .bx b28 [.slice none 0 0, .slice none 0 0] 25] w) (0, r46.Data) hr74 ⟨hf72.sel (l := [1, 4, 5, 19, 20, 21]) (by kernel_rfl), hm70.sel [0, 1, 2, 3] _ rfl (by kernel_rfl)⟩ ?_
    rintro g75 s73 a76 w77 H1 ⟨hf78, hm79⟩
    unfold tensor_Map_math_Sqrt.l0 at H1
    refine wp_seq ?_
    rcases ifS_split H1 with ⟨c80, H1⟩ | ⟨c80, H1⟩
    rotate_left
    · refine reg [.bool false] [1, 4, 5, 19, 20, 21, 22] [(1, .func (.func 11) #[] #[]), (4, .pointer (some ⟨b28, 0, none⟩)), (5, .pointer (some ⟨b58, 0, none⟩)), (19, .slice A51 s73.2.length c52), (20, .int .i64 (r46.Data.length : Int)), (21, .int .i64 s73.1), (22, .bool false)] [.is (decide (s73.1 < (r46.Data.length : Int)) = false)] hf78 (by kernel_rfl) ⟨(decide_eq_false c80), trivial⟩ fun a144 hf145 => ?_
      refine thenN ?_
      refine wp_seq ?_
      refine condF hf145 (by kernel_rfl) ?_
      refine wp_exit ?_
      refine thenE ?_
      refine thenE ?_
      obtain rfl := Option.some.inj H1
      exact .inl ⟨rfl, hf145.sel (l := [1, 4, 5, 19, 20, 21]) (by kernel_rfl), hm79.sel [0, 1, 2, 3] _ rfl (by kernel_rfl)⟩
    refine reg [.bool true] [1, 4, 5, 19, 20, 21, 22] [(1, .func (.func 11) #[] #[]), (4, .pointer (some ⟨b28, 0, none⟩)), (5, .pointer (some ⟨b58, 0, none⟩)), (19, .slice A51 s73.2.length c52), (20, .int .i64 (r46.Data.length : Int)), (21, .int .i64 s73.1), (22, .bool true)] [.is (decide (s73.1 < (r46.Data.length : Int)) = true)] hf78 (by kernel_rfl) ⟨(decide_eq_true c80), trivial⟩ fun a81 hf82 => ?_
    refine thenN ?_
    refine wp_seq ?_
    refine condT hf82 (by kernel_rfl) ?_
    refine wp_skip ?_
    refine thenN ?_
    refine wp_seq ?_
    refine wp_block ?_
    refine wp_seq ?_
    obtain ⟨g83, H1⟩ := ifS_guard H1
    have q84 := (hm79.owAt 2 rfl).float s73.1 g83.1 g83.2
    obtain ⟨b85, hb85, kb85⟩ := q84.2
    refine reg [.float .f64 b85] [1, 4, 5, 6, 7, 19, 20, 21] [(1, .func (.func 11) #[] #[]), (4, .pointer (some ⟨b28, 0, none⟩)), (5, .pointer (some ⟨b58, 0, none⟩)), (6, .int .i64 s73.1), (7, .float .f64 b85), (19, .slice A51 s73.2.length c52), (20, .int .i64 (r46.Data.length : Int)), (21, .int .i64 s73.1)] [.is (Option.isSome A51 = true), .is (0 ≤ s73.1 ∧ s73.1 < (s73.2.length : Int)), .cell ((ad A51).add ((s73.1).toNat * 1)) (.float .f64 b85)] hf82 (by kernel_rfl) ⟨q84.1, g83, kb85, trivial⟩ fun a86 hf87 => ?_
    refine thenN ?_
    obtain ⟨r88, hr88, H1⟩ := obS_split H1
    refine midReg (fun (a : Act) (w : World) => Fr 35 a [(1, .func (.func 11) #[] #[]), (4, .pointer (some ⟨b28, 0, none⟩)), (5, .pointer (some ⟨b58, 0, none⟩)), (19, .slice A51 s73.2.length c52), (20, .int .i64 (r46.Data.length : Int)), (21, .int .i64 s73.1)] ∧ Mem [] M w0 [.bx b58 [.slice A49 r46.Shape.length c50, .slice A51 s73.2.length c52] 25, .ow (Kd.int .i64) 3 A49 c50 r46.Shape, .ow Kd.float 26 A51 c52 (put s73.2 s73.1 r88), .bx b28 [.slice none 0 0, .slice none 0 0] 25] w) ?_ ?_
    · refine anyG [7] (by kernel_rfl) fun w101 hg102 => ?_
      have hm103 := hm79.still hg102
      refine quiet0 [0, 1, 2, 3, 4] [.slice A51 s73.2.length c52] [1, 4, 5, 19, 20, 21, 27, 28, 29, 30] #[true, true, true, true, true, false, false, false] [(1, .func (.func 11) #[] #[]), (4, .pointer (some ⟨b28, 0, none⟩)), (5, .pointer (some ⟨b58, 0, none⟩)), (19, .slice A51 s73.2.length c52), (20, .int .i64 (r46.Data.length : Int)), (21, .int .i64 s73.1), (27, .slice A51 s73.2.length c52), (28, .int .i64 s73.1), (29, .func (.func 11) #[] #[]), (30, .float .f64 b85)] [.cell ⟨b58, 1, none⟩ (.slice A51 s73.2.length c52)] 3 rfl (by kernel_rfl) (fun _ _ _ _ _ h => nomatch h.1) hf87 (by kernel_rfl) ⟨(hm103.cell 0 rfl rfl), trivial⟩ fun a120 hf121 => ?_
      refine all1 5 (by kernel_rfl) ?_
      refine opOf hf121 rfl (by kernel_rfl) (aCall (fid := 11) (args := [.float .f64 b85]) (d := 31) hf121 (by kernel_rfl) (by kernel_rfl) callable11 (math_Sqrt.calls _ _ (rd s73.2 s73.1) b85 hb85 (hm103.give [] [] rfl rfl) r88 hr88) ?_)
      rintro _ w123 a124 ⟨b122, rfl, hb122, hk126⟩ hf125
      refine ⟨.inr (Gr.still hk126.cum.none), ?_⟩
      have hm127 := hm103.still hk126.cum.none
      have q128 := (hm127.owAt 2 rfl).float s73.1 g83.1 g83.2
      obtain ⟨b129, hb129, kb129⟩ := q128.2
      refine quiet0 [6] [] [1, 4, 5, 19, 20, 21, 31, 32] #[true, true, true, true, true, true, true, false] [(1, .func (.func 11) #[] #[]), (4, .pointer (some ⟨b28, 0, none⟩)), (5, .pointer (some ⟨b58, 0, none⟩)), (19, .slice A51 s73.2.length c52), (20, .int .i64 (r46.Data.length : Int)), (21, .int .i64 s73.1), (31, .float .f64 b122), (32, .pointer (some ((ad A51).add ((s73.1).toNat * 1))))] [.is (Option.isSome A51 = true), .is (0 ≤ s73.1 ∧ s73.1 < (s73.2.length : Int))] 1 rfl (by kernel_rfl) (fun _ _ _ _ _ h => nomatch h.1) hf125 (by kernel_rfl) ⟨q128.1, g83, trivial⟩ fun a130 hf131 => ?_
      refine all1 7 (by kernel_rfl) ?_
      refine opOf hf131 rfl (by kernel_rfl) (aStoreO (kd := Kd.float) (base := 0) (E := 26) (A := A51) (c := c52) (xs := s73.2) (i := s73.1) (x := r88) (us := [.float .f64 b122]) (sz := 1) hf131 (by kernel_rfl) rfl (by kernel_rfl) (hm127.at 2 rfl) ⟨_, rfl, hb122⟩ g83.1 g83.2 ?_)
      intro w132 hx133 hg134
      refine ⟨.inl (by decide), ?_⟩
      have hm135 := hm127.setOwn 2 _ rfl rfl hx133 hg134 (.inl rfl)
      refine allDone (by kernel_rfl) ⟨rfl, hf131.sel (l := [1, 4, 5, 19, 20, 21]) (by kernel_rfl), hm135.sel [0, 1, 2, 3] _ rfl (by kernel_rfl)⟩
    rintro a136 w137 ⟨hf138, hm139⟩
    refine blkN ?_
    refine thenN ?_
    refine reg [] [1, 4, 5, 19, 20, 21] [(1, .func (.func 11) #[] #[]), (4, .pointer (some ⟨b28, 0, none⟩)), (5, .pointer (some ⟨b58, 0, none⟩)), (19, .slice A51 s73.2.length c52), (20, .int .i64 (r46.Data.length : Int)), (21, .int .i64 (w64 (s73.1 + 1)))] [] hf138 (by kernel_rfl) trivial fun a140 hf141 => ?_
    have hf142 : Fr 35 a140 [(1, .func (.func 11) #[] #[]), (4, .pointer (some ⟨b28, 0, none⟩)), (5, .pointer (some ⟨b58, 0, none⟩)), (19, .slice A51 s73.2.length c52), (20, .int .i64 (r46.Data.length : Int)), (21, .int .i64 (w64 (s73.1 + 1)))] := hf141.sel (l := [1, 4, 5, 19, 20, 21]) (by kernel_rfl)
    have hm143 : Mem [] M w0 [.bx b58 [.slice A49 r46.Shape.length c50, .slice A51 s73.2.length c52] 25, .ow (Kd.int .i64) 3 A49 c50 r46.Shape, .ow Kd.float 26 A51 c52 (put s73.2 s73.1 r88), .bx b28 [.slice none 0 0, .slice none 0 0] 25] w137 := hm139.sel [0, 1, 2, 3] _ rfl (by kernel_rfl)
    exact ⟨((w64 (s73.1 + 1)), (put s73.2 s73.1 r88)), H1, (by simpa only [put_length, List.length_nil] using hf142), (by simpa only [put_length, List.length_nil] using hm143)⟩
  rintro a146 w147 ⟨hf148, hm149⟩
  refine thenN ?_
  refine wp_seq ?_
  refine inReg ?_
  refine go 1 [.agg #[.slice A49 r46.Shape.length c50, .slice A51 r74.2.length c52]] [4, 34] [(4, .pointer (some ⟨b28, 0, none⟩)), (34, .agg #[.slice A49 r46.Shape.length c50, .slice A51 r74.2.length c52])] [.cell ⟨b58, 0, none⟩ (.slice A49 r46.Shape.length c50), .cell ⟨b58, 1, none⟩ (.slice A51 r74.2.length c52)] hf148 (by kernel_rfl) ⟨(hm149.cell 0 rfl rfl), (hm149.cell 0 rfl rfl), trivial⟩ fun a150 hf151 => ?_
  refine listOf hf151 rfl (by kernel_rfl) (aStoreB (b := b28) (j := 0) (T := 25) (cs := [.slice none 0 0, .slice none 0 0]) (us := [.slice A49 r46.Shape.length c50, .slice A51 r74.2.length c52]) (cs' := [.slice A49 r46.Shape.length c50, .slice A51 r74.2.length c52]) hf151 (by kernel_rfl) (hm149.bxAt 3 rfl) (by kernel_rfl) (by kernel_rfl) (by kernel_rfl) ?_)
  intro w152 hx153 hg154
  have hm155 := hm149.setBox 3 _ rfl rfl hx153 hg154
  refine endL rfl ?_
  have hm156 := hm155.sel [1, 2, 3] _ rfl (by kernel_rfl)
  refine thenN ?_
  refine wp_ret ?_
  have hm157 : Mem [] M w0 [.ow (Kd.int .i64) 3 A49 c50 r46.Shape, .ow Kd.float 26 A51 c52 r74.2] w152 := hm156.sel [0, 1] _ rfl (by kernel_rfl)
  obtain rfl := Option.some.inj H0
  refine ret [.agg #[.slice A49 r46.Shape.length c50, .slice A51 r74.2.length c52]] [.agg #[.slice A49 r46.Shape.length c50, .slice A51 r74.2.length c52]] [.cell ⟨b28, 0, none⟩ (.slice A49 r46.Shape.length c50), .cell ⟨b28, 1, none⟩ (.slice A51 r74.2.length c52)] hf151 (by kernel_rfl) ⟨(hm156.cell 2 rfl rfl), (hm156.cell 2 rfl rfl), trivial⟩ ?_
  exact ⟨_, rfl, A49, c50, A51, c52, rfl, hm157⟩
end Go.Proofs.Ytkcgiolledmbnac
