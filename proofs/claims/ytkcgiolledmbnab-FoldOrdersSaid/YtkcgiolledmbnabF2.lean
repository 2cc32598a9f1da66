/- Printed by gen.py. -/
import Derived.Test.YtkcgiolledmbnabF0
import Derived.Test.YtkcgiolledmbnabF1
namespace Go.Proofs.Ytkcgiolledmbnab
open Go Go.RowKit
set_option linter.unusedSimpArgs false
set_option linter.unusedVariables false
set_option linter.unnecessarySimpa false
/-! ### slices.Clone[[]float64,float64] -/
noncomputable def slices_Clone_float64.f (x0 : (List Nat)) : Option (List Nat) :=
  if 0 + x0.length ≤ 549755813888 then (some (([] : List Nat) ++ x0))
  else none
set_option maxRecDepth 100000 in
set_option maxHeartbeats 4000000 in
theorem slices_Clone_float64.calls (M : List (Option Nat)) (w0 : World) (x0 : (List Nat)) (A0 : Option Addr) (n0 c0 : Nat) (e0 : n0 = x0.length) (hm0 : Mem [] M w0 [.sl Kd.float A0 c0 x0] w0) (r : (List Nat)) (H0 : slices_Clone_float64.f x0 = some r) :
    Calls Try.prog 76 [.slice A0 n0 c0].toArray w0 (fun x w' => ∃ v, x = .returned v ∧ ∃ Ar0 cr0, v = .slice Ar0 r.length cr0 ∧ Mem [] M w0 [.ow Kd.float 44 Ar0 cr0 r] w') := by
  subst e0
  unfold slices_Clone_float64.f at H0
  refine enter (n := 8) Try.func76 rfl rfl (by kernel_rfl) fun a0 (hf0 : Fr 8 a0 [(0, .slice A0 x0.length c0)]) => ?_
  refine wp_seq ?_
  refine reg [] [0] [(0, .slice A0 x0.length c0)] [] hf0 (by kernel_rfl) trivial fun a21 hf22 => ?_
  refine thenN ?_
  refine wp_seq ?_
  refine wp_seq ?_
  rcases A0 with _ | p23
  · obtain rfl := Sl.none (hm0.slAt 0 rfl)
    refine reg [] [0, 4] [(0, .slice none (([] : (List Nat)).length) c0), (4, .bool true)] [] hf22 (by kernel_rfl) trivial fun a24 hf25 => ?_
    refine thenN ?_
    refine condT hf25 (by kernel_rfl) ?_
    refine wp_seq ?_
    refine reg [] [2] [(2, .slice none 0 0)] [] hf25 (by kernel_rfl) trivial fun a26 hf27 => ?_
    have hm28 := hm0.sel [] _ rfl (by kernel_rfl)
    refine thenN ?_
    refine wp_ret ?_
    refine thenR ?_
    have hm29 := hm28.nilOw Kd.float 44
    have hm30 : Mem [] M w0 [.ow Kd.float 44 none 0 ([] : (List Nat))] w0 := hm29.sel [0] _ rfl (by kernel_rfl)
    replace H0 : some ([] : (List Nat)) = some r := by rw [← H0]; simp
    obtain rfl := Option.some.inj H0
    refine ret [] [.slice none 0 0] [] hf27 (by kernel_rfl) trivial ?_
    exact ⟨_, rfl, none, 0, rfl, hm30⟩
  · refine reg [] [0, 4] [(0, .slice (some p23) x0.length c0), (4, .bool false)] [] hf22 (by kernel_rfl) trivial fun a32 hf33 => ?_
    refine thenN ?_
    refine condF hf33 (by kernel_rfl) ?_
    refine wp_skip ?_
    refine thenN ?_
    refine wp_seq ?_
    obtain ⟨g34, H0⟩ := if_guard H0
    refine inReg ?_
    refine listOf hf33 rfl (by kernel_rfl) (aLit (cs := []) (E := 44) (len := 0) (d := 5) hf33 (by kernel_rfl) (by kernel_rfl) ?_)
    intro b35 w36 a37 hbb35 hx39 hg40 hf38
    have hm41 : Mem [] M w0 [.ow Kd.float 44 (some ⟨b35, 0, none⟩) 0 ([] : List Nat), .sl Kd.float (some p23) c0 x0] w36 := Mem.litOwn (kd := Kd.float) (xs := ([] : List Nat)) hm0 hbb35 hx39 hg40 (Els.nil) (by simp [maxLen])
    refine go 1 [] [5, 6] [(5, .slice (some ⟨b35, 0, none⟩) 0 0), (6, .slice (some p23) x0.length c0)] [] hf38 (by kernel_rfl) trivial fun a42 hf43 => ?_
    have e52 : 0 = ([] : List Nat).length := rfl
    have e53 : x0.length = x0.length := rfl
    refine listOf hf43 rfl (by kernel_rfl) (aApp (kd := Kd.float) (base := 0) (E := 44) (A := (some ⟨b35, 0, none⟩)) (B := (some p23)) (c := 0) (c2 := c0) (xs := ([] : List Nat)) (ys := x0) (k := 0) (m := x0.length) (sz := 1) (d := 7) hf43 (by kernel_rfl) e52 e53 (by kernel_rfl) rfl (by kernel_rfl) (hm41.at 0 rfl) (hm41.at2 0 1 rfl rfl).2 (hm41.cpAt 1 rfl) (Nat.zero_le _) (by have := g34; omega) ?_)
    intro A44 c45 w46 a47 ho49 hg50 hr51 hf48
    have hm54 := hm41.setOwn 0 _ rfl rfl ho49 hg50 hr51
    refine go 1 [] [2] [(2, .slice A44 ((([] : List Nat) ++ x0).length) c45)] [] hf48 (by kernel_rfl) trivial fun a55 hf56 => ?_
    refine endL rfl ?_
    have hm57 := hm54.sel [0] _ rfl (by kernel_rfl)
    refine thenN ?_
    refine wp_ret ?_
    have hm58 : Mem [] M w0 [.ow Kd.float 44 A44 c45 (([] : List Nat) ++ x0)] w46 := hm57.sel [0] _ rfl (by kernel_rfl)
    obtain rfl := Option.some.inj H0
    refine ret [] [.slice A44 ((([] : List Nat) ++ x0).length) c45] [] hf56 (by kernel_rfl) trivial ?_
    exact ⟨_, rfl, A44, c45, rfl, hm58⟩

/-! ### backstitch/tensor.Copy -/
noncomputable def tensor_Copy.f (x0 : Tensor) : Option Tensor :=
  (slices_Clone_int.f x0.Shape).bind fun r35 =>
  (slices_Clone_float64.f x0.Data).bind fun r36 =>
  some (⟨r35, r36⟩ : Tensor)
set_option maxRecDepth 100000 in
set_option maxHeartbeats 4000000 in
theorem tensor_Copy.calls (M : List (Option Nat)) (w0 : World) (x0 : Tensor) (A0_0 : Option Addr) (n0_0 c0_0 : Nat) (e0_0 : n0_0 = x0.Shape.length) (A0_1 : Option Addr) (n0_1 c0_1 : Nat) (e0_1 : n0_1 = x0.Data.length) (hm0 : Mem [] M w0 [.sl (Kd.int .i64) A0_0 c0_0 x0.Shape, .sl Kd.float A0_1 c0_1 x0.Data] w0) (r : Tensor) (H0 : tensor_Copy.f x0 = some r) :
    Calls Try.prog 49 [.agg #[.slice A0_0 n0_0 c0_0, .slice A0_1 n0_1 c0_1]].toArray w0 (fun x w' => ∃ v, x = .returned v ∧ ∃ Ar0_0 cr0_0 Ar0_1 cr0_1, v = .agg #[.slice Ar0_0 r.Shape.length cr0_0, .slice Ar0_1 r.Data.length cr0_1] ∧ Mem [] M w0 [.ow (Kd.int .i64) 3 Ar0_0 cr0_0 r.Shape, .ow Kd.float 44 Ar0_1 cr0_1 r.Data] w') := by
  subst e0_0
  subst e0_1
  unfold tensor_Copy.f at H0
  refine enter (n := 10) Try.func49 rfl rfl (by kernel_rfl) fun a0 (hf0 : Fr 10 a0 [(0, .agg #[.slice A0_0 x0.Shape.length c0_0, .slice A0_1 x0.Data.length c0_1])]) => ?_
  refine wp_seq ?_
  refine inReg ?_
  refine listOf hf0 rfl (by kernel_rfl) (aNew (cs := [.slice A0_0 x0.Shape.length c0_0, .slice A0_1 x0.Data.length c0_1]) (T := 28) (d := 1) hf0 (by kernel_rfl) (by kernel_rfl) ?_)
  intro b21 w22 a23 hbb21 hx25 hg26 hf24
  have hm27 := hm0.box hbb21 hx25 hg26
  refine listOf hf24 rfl (by kernel_rfl) (aNew (cs := [.slice none 0 0, .slice none 0 0]) (T := 28) (d := 2) hf24 (by kernel_rfl) (by kernel_rfl) ?_)
  intro b28 w29 a30 hbb28 hx32 hg33 hf31
  have hm34 := hm27.box hbb28 hx32 hg33
  refine endL rfl ?_
  refine thenN ?_
  refine wp_seq ?_
  obtain ⟨r35, hr35, H0⟩ := ob_split H0
  obtain ⟨r36, hr36, H0⟩ := ob_split H0
  refine midReg (fun (a : Act) (w : World) => ∃ (A44 : Option Addr) (c45 : Nat) (A37 : Option Addr) (c38 : Nat), Fr 10 a [(2, .pointer (some ⟨b28, 0, none⟩))] ∧ Mem [] M w0 [.ow Kd.float 44 A44 c45 r36, .ow (Kd.int .i64) 3 A37 c38 r35, .bx b28 [.slice A37 r35.length c38, .slice A44 r36.length c45] 28] w) ?_ ?_
  · refine anyG [7] (by kernel_rfl) fun w56 hg57 => ?_
    have hm58 := hm34.still hg57
    refine quiet0 [0, 1, 3, 4] [.slice A0_0 x0.Shape.length c0_0, .slice A0_1 x0.Data.length c0_1] [2, 4, 7] #[true, true, false, true, true, false, false, false] [(2, .pointer (some ⟨b28, 0, none⟩)), (4, .slice A0_0 x0.Shape.length c0_0), (7, .slice A0_1 x0.Data.length c0_1)] [.cell ⟨b21, 0, none⟩ (.slice A0_0 x0.Shape.length c0_0), .cell ⟨b21, 1, none⟩ (.slice A0_1 x0.Data.length c0_1)] 4 rfl (by kernel_rfl) (fun _ _ _ _ _ h => nomatch h.1) hf31 (by kernel_rfl) ⟨(hm58.cell 1 rfl rfl), (hm58.cell 1 rfl rfl), trivial⟩ fun a82 hf83 => ?_
    refine all1 2 (by kernel_rfl) ?_
    refine opOf hf83 rfl (by kernel_rfl) (aCall (fid := 54) (args := [.slice A0_0 x0.Shape.length c0_0]) (d := 5) hf83 (by kernel_rfl) (by kernel_rfl) callable54 (slices_Clone_int.calls _ _ x0.Shape A0_0 x0.Shape.length c0_0 rfl (hm58.give [2] [.sl (Kd.int .i64) A0_0 c0_0 x0.Shape] rfl rfl) r35 hr35) ?_)
    rintro _ w86 a87 ⟨A84, c85, rfl, hk89⟩ hf88
    refine ⟨.inr (Gr.still hk89.cum.none), ?_⟩
    have hm90 := hm58.back hk89
    refine all1 5 (by kernel_rfl) ?_
    refine opOf hf88 rfl (by kernel_rfl) (aCall (fid := 76) (args := [.slice A0_1 x0.Data.length c0_1]) (d := 8) hf88 (by kernel_rfl) (by kernel_rfl) callable76 (slices_Clone_float64.calls _ _ x0.Data A0_1 x0.Data.length c0_1 rfl (hm90.give [4] [.sl Kd.float A0_1 c0_1 x0.Data] rfl rfl) r36 hr36) ?_)
    rintro _ w93 a94 ⟨A91, c92, rfl, hk96⟩ hf95
    refine ⟨.inr (Gr.still hk96.cum.none), ?_⟩
    have hm97 := hm90.back hk96
    refine quiet0 [6] [] [2, 9] #[true, true, true, true, true, true, true, false] [(2, .pointer (some ⟨b28, 0, none⟩)), (9, .agg #[.slice A84 r35.length c85, .slice A91 r36.length c92])] [] 1 rfl (by kernel_rfl) (fun _ _ _ _ _ h => nomatch h.1) hf95 (by kernel_rfl) trivial fun a98 hf99 => ?_
    refine all1 7 (by kernel_rfl) ?_
    refine opOf hf99 rfl (by kernel_rfl) (aStoreB (b := b28) (j := 0) (T := 28) (cs := [.slice none 0 0, .slice none 0 0]) (us := [.slice A84 r35.length c85, .slice A91 r36.length c92]) (cs' := [.slice A84 r35.length c85, .slice A91 r36.length c92]) hf99 (by kernel_rfl) (hm97.bxAt 2 rfl) (by kernel_rfl) (by kernel_rfl) (by kernel_rfl) ?_)
    intro w100 hx101 hg102
    refine ⟨.inl (by decide), ?_⟩
    have hm103 := hm97.setBox 2 _ rfl rfl hx101 hg102
    refine allDone (by kernel_rfl) ⟨rfl, A91, c92, A84, c85, hf99.sel (l := [2]) (by kernel_rfl), hm103.sel [0, 1, 2] _ rfl (by kernel_rfl)⟩
  rintro a104 w105 ⟨A44, c45, A37, c38, hf106, hm107⟩
  refine thenN ?_
  refine wp_ret ?_
  have hm108 : Mem [] M w0 [.ow (Kd.int .i64) 3 A37 c38 r35, .ow Kd.float 44 A44 c45 r36] w105 := hm107.sel [1, 0] _ rfl (by kernel_rfl)
  obtain rfl := Option.some.inj H0
  refine ret [.agg #[.slice A37 r35.length c38, .slice A44 r36.length c45]] [.agg #[.slice A37 r35.length c38, .slice A44 r36.length c45]] [.cell ⟨b28, 0, none⟩ (.slice A37 r35.length c38), .cell ⟨b28, 1, none⟩ (.slice A44 r36.length c45)] hf106 (by kernel_rfl) ⟨(hm107.cell 2 rfl rfl), (hm107.cell 2 rfl rfl), trivial⟩ ?_
  exact ⟨_, rfl, A37, c38, A44, c45, rfl, hm108⟩

/-! ### (*backstitch/fold.Slots).Put -/
noncomputable def fold_Slots_Put.f (x0 : Slots) (x1 : Int) (x2 : Tensor) : Option ((List Tensor) × (List Bool) × Int × Int) :=
  if x1 < 0 then (some (x0.l, x0.filled, x0.left, 1))
  else (if (x0.l.length : Int) ≤ x1 then (some (x0.l, x0.filled, x0.left, 1))
  else (if 0 ≤ x1 ∧ x1 < (x0.filled.length : Int) then (if (rd x0.filled x1) = true then (some (x0.l, x0.filled, x0.left, 1))
  else ((tensor_May.f x2).bind fun r56 =>
  if r56 = true then ((shape_Same.f x2.Shape x0.s).bind fun r58 =>
  if r58 = true then ((tensor_Copy.f x2).bind fun r110 =>
  if 0 ≤ x1 ∧ x1 < (x0.l.length : Int) then (some ((put x0.l x1 r110), (put x0.filled x1 true), (w64 (x0.left - 1)), 0))
  else none)
  else (some (x0.l, x0.filled, x0.left, 2)))
  else (some (x0.l, x0.filled, x0.left, 2))))
  else none))
set_option maxRecDepth 100000 in
set_option maxHeartbeats 4000000 in
theorem fold_Slots_Put.calls (B0 : List (Option Nat)) (M : List (Option Nat)) (w0 : World) (x0 : Slots) (b0 : Nat) (A0_0 : Option Addr) (n0_0 c0_0 : Nat) (e0_0 : n0_0 = x0.s.length) (A0_1 : Option Addr) (n0_1 c0_1 : Nat) (e0_1 : n0_1 = x0.l.length) (A0_2 : Option Addr) (n0_2 c0_2 : Nat) (e0_2 : n0_2 = x0.filled.length) (x1 : Int) (x2 : Tensor) (A2_0 : Option Addr) (n2_0 c2_0 : Nat) (e2_0 : n2_0 = x2.Shape.length) (A2_1 : Option Addr) (n2_1 c2_1 : Nat) (e2_1 : n2_1 = x2.Data.length) (hm0 : Mem B0 M w0 [.bx b0 [.slice A0_0 n0_0 c0_0, .slice A0_1 n0_1 c0_1, .slice A0_2 n0_2 c0_2, .int .i64 x0.left] 80, .ow kTensor 28 A0_1 c0_1 x0.l, .ow Kd.bool 4 A0_2 c0_2 x0.filled, .sl (Kd.int .i64) A0_0 c0_0 x0.s, .sl (Kd.int .i64) A2_0 c2_0 x2.Shape, .sl Kd.float A2_1 c2_1 x2.Data] w0) (r : ((List Tensor) × (List Bool) × Int × Int)) (H0 : fold_Slots_Put.f x0 x1 x2 = some r) :
    Calls Try.prog 23 [.pointer (some ⟨b0, 0, none⟩), .int .i64 x1, .agg #[.slice A2_0 n2_0 c2_0, .slice A2_1 n2_1 c2_1]].toArray w0 (fun x w' => ∃ v, x = .returned v ∧ ∃ Ap0_1 cp0_1 Ap0_2 cp0_2, v = .int .i64 r.2.2.2 ∧ Mem B0 M w0 [.bx b0 [.slice A0_0 x0.s.length c0_0, .slice Ap0_1 r.1.length cp0_1, .slice Ap0_2 r.2.1.length cp0_2, .int .i64 r.2.2.1] 80, .ow kTensor 28 Ap0_1 cp0_1 r.1, .ow Kd.bool 4 Ap0_2 cp0_2 r.2.1] w') := by
  subst e0_0
  subst e0_1
  subst e0_2
  subst e2_0
  subst e2_1
  unfold fold_Slots_Put.f at H0
  refine enter (n := 67) Try.func23 rfl rfl (by kernel_rfl) fun a0 (hf0 : Fr 67 a0 [(0, .pointer (some ⟨b0, 0, none⟩)), (1, .int .i64 x1), (2, .agg #[.slice A2_0 x2.Shape.length c2_0, .slice A2_1 x2.Data.length c2_1])]) => ?_
  refine wp_seq ?_
  refine inReg ?_
  refine listOf hf0 rfl (by kernel_rfl) (aNew (cs := [.slice A2_0 x2.Shape.length c2_0, .slice A2_1 x2.Data.length c2_1]) (T := 28) (d := 5) hf0 (by kernel_rfl) (by kernel_rfl) ?_)
  intro b21 w22 a23 hbb21 hx25 hg26 hf24
  have hm27 := hm0.box hbb21 hx25 hg26
  refine go 1 [] [0, 1, 5] [(0, .pointer (some ⟨b0, 0, none⟩)), (1, .int .i64 x1), (5, .pointer (some ⟨b21, 0, none⟩))] [] hf24 (by kernel_rfl) trivial fun a28 hf29 => ?_
  refine endL rfl ?_
  refine thenN ?_
  refine wp_seq ?_
  refine wp_block ?_
  refine wp_seq ?_
  rcases if_split H0 with ⟨c30, H0⟩ | ⟨c30, H0⟩
  · refine reg [.bool true] [0, 1, 5, 7] [(0, .pointer (some ⟨b0, 0, none⟩)), (1, .int .i64 x1), (5, .pointer (some ⟨b21, 0, none⟩)), (7, .bool true)] [.is (decide (x1 < 0) = true)] hf29 (by kernel_rfl) ⟨(decide_eq_true c30), trivial⟩ fun a31 hf32 => ?_
    refine thenN ?_
    refine condT hf32 (by kernel_rfl) ?_
    refine wp_seq ?_
    refine reg [] [6] [(6, .int .i64 1)] [] hf32 (by kernel_rfl) trivial fun a33 hf34 => ?_
    have hm35 := hm27.sel [1, 2, 3, 4] _ rfl (by kernel_rfl)
    refine thenN ?_
    refine wp_ret ?_
    refine blkR ?_
    refine thenR ?_
    have hm36 : Mem B0 M w0 [.bx b0 [.slice A0_0 x0.s.length c0_0, .slice A0_1 x0.l.length c0_1, .slice A0_2 x0.filled.length c0_2, .int .i64 x0.left] 80, .ow kTensor 28 A0_1 c0_1 x0.l, .ow Kd.bool 4 A0_2 c0_2 x0.filled] w22 := hm35.sel [0, 1, 2] _ rfl (by kernel_rfl)
    obtain rfl := Option.some.inj H0
    refine ret [] [.int .i64 1] [] hf34 (by kernel_rfl) trivial ?_
    exact ⟨_, rfl, A0_1, c0_1, A0_2, c0_2, rfl, hm36⟩
  rcases if_split H0 with ⟨c38, H0⟩ | ⟨c38, H0⟩
  · refine reg [.bool false, .slice A0_1 x0.l.length c0_1, .bool true] [0, 1, 5, 7] [(0, .pointer (some ⟨b0, 0, none⟩)), (1, .int .i64 x1), (5, .pointer (some ⟨b21, 0, none⟩)), (7, .bool true)] [.is (decide (x1 < 0) = false), .cell ⟨b0, 1, none⟩ (.slice A0_1 x0.l.length c0_1), .is (decide ((x0.l.length : Int) ≤ x1) = true)] hf29 (by kernel_rfl) ⟨(decide_eq_false c30), (hm27.cell 1 rfl rfl), (decide_eq_true c38), trivial⟩ fun a39 hf40 => ?_
    refine thenN ?_
    refine condT hf40 (by kernel_rfl) ?_
    refine wp_seq ?_
    refine reg [] [6] [(6, .int .i64 1)] [] hf40 (by kernel_rfl) trivial fun a41 hf42 => ?_
    have hm43 := hm27.sel [1, 2, 3, 4] _ rfl (by kernel_rfl)
    refine thenN ?_
    refine wp_ret ?_
    refine blkR ?_
    refine thenR ?_
    have hm44 : Mem B0 M w0 [.bx b0 [.slice A0_0 x0.s.length c0_0, .slice A0_1 x0.l.length c0_1, .slice A0_2 x0.filled.length c0_2, .int .i64 x0.left] 80, .ow kTensor 28 A0_1 c0_1 x0.l, .ow Kd.bool 4 A0_2 c0_2 x0.filled] w22 := hm43.sel [0, 1, 2] _ rfl (by kernel_rfl)
    obtain rfl := Option.some.inj H0
    refine ret [] [.int .i64 1] [] hf42 (by kernel_rfl) trivial ?_
    exact ⟨_, rfl, A0_1, c0_1, A0_2, c0_2, rfl, hm44⟩
  obtain ⟨g46, H0⟩ := if_guard H0
  have q47 := (hm27.owAt 3 rfl).bool x1 g46.1 g46.2
  refine reg [.bool false, .slice A0_1 x0.l.length c0_1, .bool false, .slice A0_2 x0.filled.length c0_2, .bool (rd x0.filled x1)] [0, 1, 5, 7] [(0, .pointer (some ⟨b0, 0, none⟩)), (1, .int .i64 x1), (5, .pointer (some ⟨b21, 0, none⟩)), (7, .bool (rd x0.filled x1))] [.is (decide (x1 < 0) = false), .cell ⟨b0, 1, none⟩ (.slice A0_1 x0.l.length c0_1), .is (decide ((x0.l.length : Int) ≤ x1) = false), .cell ⟨b0, 2, none⟩ (.slice A0_2 x0.filled.length c0_2), .is (Option.isSome A0_2 = true), .is (0 ≤ x1 ∧ x1 < (x0.filled.length : Int)), .cell ((ad A0_2).add ((x1).toNat * 1)) (.bool (rd x0.filled x1))] hf29 (by kernel_rfl) ⟨(decide_eq_false c30), (hm27.cell 1 rfl rfl), (decide_eq_false c38), (hm27.cell 1 rfl rfl), q47.1, g46, q47.2, trivial⟩ fun a48 hf49 => ?_
  refine thenN ?_
  rcases ifb_split H0 with ⟨c50, H0⟩ | ⟨c50, H0⟩
  · rw [c50] at hf49
    refine condT hf49 (by kernel_rfl) ?_
    refine wp_seq ?_
    refine reg [] [6] [(6, .int .i64 1)] [] hf49 (by kernel_rfl) trivial fun a51 hf52 => ?_
    have hm53 := hm27.sel [1, 2, 3, 4] _ rfl (by kernel_rfl)
    refine thenN ?_
    refine wp_ret ?_
    refine blkR ?_
    refine thenR ?_
    have hm54 : Mem B0 M w0 [.bx b0 [.slice A0_0 x0.s.length c0_0, .slice A0_1 x0.l.length c0_1, .slice A0_2 x0.filled.length c0_2, .int .i64 x0.left] 80, .ow kTensor 28 A0_1 c0_1 x0.l, .ow Kd.bool 4 A0_2 c0_2 x0.filled] w22 := hm53.sel [0, 1, 2] _ rfl (by kernel_rfl)
    obtain rfl := Option.some.inj H0
    refine ret [] [.int .i64 1] [] hf52 (by kernel_rfl) trivial ?_
    exact ⟨_, rfl, A0_1, c0_1, A0_2, c0_2, rfl, hm54⟩
  rw [c50] at hf49
  refine condF hf49 (by kernel_rfl) ?_
  refine wp_seq ?_
  obtain ⟨r56, hr56, H0⟩ := ob_split H0
  rcases ifb_split H0 with ⟨c57, H0⟩ | ⟨c57, H0⟩
  rotate_left
  · refine midReg (fun (a : Act) (w : World) => Fr 67 a [(0, .pointer (some ⟨b0, 0, none⟩)), (1, .int .i64 x1), (5, .pointer (some ⟨b21, 0, none⟩)), (32, .bool true)] ∧ Mem B0 M w0 [.bx b21 [.slice A2_0 x2.Shape.length c2_0, .slice A2_1 x2.Data.length c2_1] 28, .bx b0 [.slice A0_0 x0.s.length c0_0, .slice A0_1 x0.l.length c0_1, .slice A0_2 x0.filled.length c0_2, .int .i64 x0.left] 80, .ow kTensor 28 A0_1 c0_1 x0.l, .ow Kd.bool 4 A0_2 c0_2 x0.filled, .sl (Kd.int .i64) A0_0 c0_0 x0.s, .sl (Kd.int .i64) A2_0 c2_0 x2.Shape, .sl Kd.float A2_1 c2_1 x2.Data] w) ?_ ?_
    · refine anyG [] (by kernel_rfl) fun w292 hg293 => ?_
      have hm294 := hm27.still hg293
      refine quiet0 [0] [.agg #[.slice A2_0 x2.Shape.length c2_0, .slice A2_1 x2.Data.length c2_1]] [0, 1, 5, 33] #[true, false, false, false, false, false, false, false, false, false, false, false, false, false] [(0, .pointer (some ⟨b0, 0, none⟩)), (1, .int .i64 x1), (5, .pointer (some ⟨b21, 0, none⟩)), (33, .agg #[.slice A2_0 x2.Shape.length c2_0, .slice A2_1 x2.Data.length c2_1])] [.cell ⟨b21, 0, none⟩ (.slice A2_0 x2.Shape.length c2_0), .cell ⟨b21, 1, none⟩ (.slice A2_1 x2.Data.length c2_1)] 13 rfl (by kernel_rfl) (fun _ _ _ _ _ h => nomatch h.1) hf49 (by kernel_rfl) ⟨(hm294.cell 0 rfl rfl), (hm294.cell 0 rfl rfl), trivial⟩ fun a304 hf305 => ?_
      refine all1 1 (by kernel_rfl) ?_
      refine opOf hf305 rfl (by kernel_rfl) (aCall (fid := 38) (args := [.agg #[.slice A2_0 x2.Shape.length c2_0, .slice A2_1 x2.Data.length c2_1]]) (d := 34) hf305 (by kernel_rfl) (by kernel_rfl) callable38 (tensor_May.calls _ _ x2 A2_0 x2.Shape.length c2_0 rfl A2_1 x2.Data.length c2_1 rfl (hm294.give [5, 6] [.sl (Kd.int .i64) A2_0 c2_0 x2.Shape, .sl Kd.float A2_1 c2_1 x2.Data] rfl rfl) r56 hr56) ?_)
      rintro _ w306 a307 ⟨rfl, hk309⟩ hf308
      refine ⟨.inr (Gr.still hk309.cum.none), ?_⟩
      have hm310 := hm294.still hk309.cum.none
      rw [c57] at hf308
      refine quiet0 [2, 3, 4, 5, 6, 7, 8, 9, 10, 11, 12, 13] [] [0, 1, 5, 32] #[true, true, true, true, true, true, true, true, true, true, true, true, true, true] [(0, .pointer (some ⟨b0, 0, none⟩)), (1, .int .i64 x1), (5, .pointer (some ⟨b21, 0, none⟩)), (32, .bool true)] [] 0 rfl (by kernel_rfl) (fun _ _ _ _ _ h => nomatch h.1) hf308 (by kernel_rfl) trivial fun a311 hf312 => ?_
      refine allDone (by kernel_rfl) ⟨rfl, hf312.sel (l := [0, 1, 5, 32]) (by kernel_rfl), hm310.sel [0, 1, 2, 3, 4, 5, 6] _ rfl (by kernel_rfl)⟩
    rintro a313 w314 ⟨hf315, hm316⟩
    refine thenN ?_
    refine condT hf315 (by kernel_rfl) ?_
    refine wp_seq ?_
    refine reg [] [6] [(6, .int .i64 2)] [] hf315 (by kernel_rfl) trivial fun a317 hf318 => ?_
    have hm319 := hm316.sel [1, 2, 3, 4] _ rfl (by kernel_rfl)
    refine thenN ?_
    refine wp_ret ?_
    refine blkR ?_
    refine thenR ?_
    have hm320 : Mem B0 M w0 [.bx b0 [.slice A0_0 x0.s.length c0_0, .slice A0_1 x0.l.length c0_1, .slice A0_2 x0.filled.length c0_2, .int .i64 x0.left] 80, .ow kTensor 28 A0_1 c0_1 x0.l, .ow Kd.bool 4 A0_2 c0_2 x0.filled] w314 := hm319.sel [0, 1, 2] _ rfl (by kernel_rfl)
    obtain rfl := Option.some.inj H0
    refine ret [] [.int .i64 2] [] hf318 (by kernel_rfl) trivial ?_
    exact ⟨_, rfl, A0_1, c0_1, A0_2, c0_2, rfl, hm320⟩
  obtain ⟨r58, hr58, H0⟩ := ob_split H0
  rcases ifb_split H0 with ⟨c59, H0⟩ | ⟨c59, H0⟩
  rotate_left
  · refine midReg (fun (a : Act) (w : World) => Fr 67 a [(0, .pointer (some ⟨b0, 0, none⟩)), (1, .int .i64 x1), (5, .pointer (some ⟨b21, 0, none⟩)), (32, .bool true)] ∧ Mem B0 M w0 [.bx b21 [.slice A2_0 x2.Shape.length c2_0, .slice A2_1 x2.Data.length c2_1] 28, .bx b0 [.slice A0_0 x0.s.length c0_0, .slice A0_1 x0.l.length c0_1, .slice A0_2 x0.filled.length c0_2, .int .i64 x0.left] 80, .ow kTensor 28 A0_1 c0_1 x0.l, .ow Kd.bool 4 A0_2 c0_2 x0.filled, .sl (Kd.int .i64) A0_0 c0_0 x0.s, .sl (Kd.int .i64) A2_0 c2_0 x2.Shape, .sl Kd.float A2_1 c2_1 x2.Data] w) ?_ ?_
    · refine anyG [] (by kernel_rfl) fun w243 hg244 => ?_
      have hm245 := hm27.still hg244
      refine quiet0 [0] [.agg #[.slice A2_0 x2.Shape.length c2_0, .slice A2_1 x2.Data.length c2_1]] [0, 1, 5, 33] #[true, false, false, false, false, false, false, false, false, false, false, false, false, false] [(0, .pointer (some ⟨b0, 0, none⟩)), (1, .int .i64 x1), (5, .pointer (some ⟨b21, 0, none⟩)), (33, .agg #[.slice A2_0 x2.Shape.length c2_0, .slice A2_1 x2.Data.length c2_1])] [.cell ⟨b21, 0, none⟩ (.slice A2_0 x2.Shape.length c2_0), .cell ⟨b21, 1, none⟩ (.slice A2_1 x2.Data.length c2_1)] 13 rfl (by kernel_rfl) (fun _ _ _ _ _ h => nomatch h.1) hf49 (by kernel_rfl) ⟨(hm245.cell 0 rfl rfl), (hm245.cell 0 rfl rfl), trivial⟩ fun a262 hf263 => ?_
      refine all1 1 (by kernel_rfl) ?_
      refine opOf hf263 rfl (by kernel_rfl) (aCall (fid := 38) (args := [.agg #[.slice A2_0 x2.Shape.length c2_0, .slice A2_1 x2.Data.length c2_1]]) (d := 34) hf263 (by kernel_rfl) (by kernel_rfl) callable38 (tensor_May.calls _ _ x2 A2_0 x2.Shape.length c2_0 rfl A2_1 x2.Data.length c2_1 rfl (hm245.give [5, 6] [.sl (Kd.int .i64) A2_0 c2_0 x2.Shape, .sl Kd.float A2_1 c2_1 x2.Data] rfl rfl) r56 hr56) ?_)
      rintro _ w264 a265 ⟨rfl, hk267⟩ hf266
      refine ⟨.inr (Gr.still hk267.cum.none), ?_⟩
      have hm268 := hm245.still hk267.cum.none
      rw [c57] at hf266
      refine quiet0 [2, 3, 4, 5, 6, 7, 8, 9] [.slice A2_0 x2.Shape.length c2_0, .slice A0_0 x0.s.length c0_0] [0, 1, 5, 36, 38, 42] #[true, true, true, true, true, true, true, true, true, true, false, false, false, false] [(0, .pointer (some ⟨b0, 0, none⟩)), (1, .int .i64 x1), (5, .pointer (some ⟨b21, 0, none⟩)), (36, .bool false), (38, .slice A2_0 x2.Shape.length c2_0), (42, .slice A0_0 x0.s.length c0_0)] [.cell ⟨b21, 0, none⟩ (.slice A2_0 x2.Shape.length c2_0), .cell ⟨b0, 0, none⟩ (.slice A0_0 x0.s.length c0_0)] 4 rfl (by kernel_rfl) (fun _ _ _ _ _ h => nomatch h.1) hf266 (by kernel_rfl) ⟨(hm268.cell 0 rfl rfl), (hm268.cell 1 rfl rfl), trivial⟩ fun a269 hf270 => ?_
      refine all1 10 (by kernel_rfl) ?_
      refine opOf hf270 rfl (by kernel_rfl) (aCall (fid := 48) (args := [.slice A2_0 x2.Shape.length c2_0, .slice A0_0 x0.s.length c0_0]) (d := 43) hf270 (by kernel_rfl) (by kernel_rfl) callable48 (shape_Same.calls _ _ x2.Shape A2_0 x2.Shape.length c2_0 rfl x0.s A0_0 x0.s.length c0_0 rfl (hm268.give [5, 4] [.sl (Kd.int .i64) A2_0 c2_0 x2.Shape, .sl (Kd.int .i64) A0_0 c0_0 x0.s] rfl rfl) r58 hr58) ?_)
      rintro _ w271 a272 ⟨rfl, hk274⟩ hf273
      refine ⟨.inr (Gr.still hk274.cum.none), ?_⟩
      have hm275 := hm268.still hk274.cum.none
      rw [c59] at hf273
      refine quiet0 [11, 12, 13] [] [0, 1, 5, 32] #[true, true, true, true, true, true, true, true, true, true, true, true, true, true] [(0, .pointer (some ⟨b0, 0, none⟩)), (1, .int .i64 x1), (5, .pointer (some ⟨b21, 0, none⟩)), (32, .bool true)] [] 0 rfl (by kernel_rfl) (fun _ _ _ _ _ h => nomatch h.1) hf273 (by kernel_rfl) trivial fun a276 hf277 => ?_
      refine allDone (by kernel_rfl) ⟨rfl, hf277.sel (l := [0, 1, 5, 32]) (by kernel_rfl), hm275.sel [0, 1, 2, 3, 4, 5, 6] _ rfl (by kernel_rfl)⟩
    rintro a278 w279 ⟨hf280, hm281⟩
    refine thenN ?_
    refine condT hf280 (by kernel_rfl) ?_
    refine wp_seq ?_
    refine reg [] [6] [(6, .int .i64 2)] [] hf280 (by kernel_rfl) trivial fun a282 hf283 => ?_
    have hm284 := hm281.sel [1, 2, 3, 4] _ rfl (by kernel_rfl)
    refine thenN ?_
    refine wp_ret ?_
    refine blkR ?_
    refine thenR ?_
    have hm285 : Mem B0 M w0 [.bx b0 [.slice A0_0 x0.s.length c0_0, .slice A0_1 x0.l.length c0_1, .slice A0_2 x0.filled.length c0_2, .int .i64 x0.left] 80, .ow kTensor 28 A0_1 c0_1 x0.l, .ow Kd.bool 4 A0_2 c0_2 x0.filled] w279 := hm284.sel [0, 1, 2] _ rfl (by kernel_rfl)
    obtain rfl := Option.some.inj H0
    refine ret [] [.int .i64 2] [] hf283 (by kernel_rfl) trivial ?_
    exact ⟨_, rfl, A0_1, c0_1, A0_2, c0_2, rfl, hm285⟩
  refine midReg (fun (a : Act) (w : World) => Fr 67 a [(0, .pointer (some ⟨b0, 0, none⟩)), (1, .int .i64 x1), (5, .pointer (some ⟨b21, 0, none⟩)), (32, .bool false)] ∧ Mem B0 M w0 [.bx b21 [.slice A2_0 x2.Shape.length c2_0, .slice A2_1 x2.Data.length c2_1] 28, .bx b0 [.slice A0_0 x0.s.length c0_0, .slice A0_1 x0.l.length c0_1, .slice A0_2 x0.filled.length c0_2, .int .i64 x0.left] 80, .ow kTensor 28 A0_1 c0_1 x0.l, .ow Kd.bool 4 A0_2 c0_2 x0.filled, .sl (Kd.int .i64) A0_0 c0_0 x0.s, .sl (Kd.int .i64) A2_0 c2_0 x2.Shape, .sl Kd.float A2_1 c2_1 x2.Data] w) ?_ ?_
  · refine anyG [] (by kernel_rfl) fun w71 hg72 => ?_
    have hm73 := hm27.still hg72
    refine quiet0 [0] [.agg #[.slice A2_0 x2.Shape.length c2_0, .slice A2_1 x2.Data.length c2_1]] [0, 1, 5, 33] #[true, false, false, false, false, false, false, false, false, false, false, false, false, false] [(0, .pointer (some ⟨b0, 0, none⟩)), (1, .int .i64 x1), (5, .pointer (some ⟨b21, 0, none⟩)), (33, .agg #[.slice A2_0 x2.Shape.length c2_0, .slice A2_1 x2.Data.length c2_1])] [.cell ⟨b21, 0, none⟩ (.slice A2_0 x2.Shape.length c2_0), .cell ⟨b21, 1, none⟩ (.slice A2_1 x2.Data.length c2_1)] 13 rfl (by kernel_rfl) (fun _ _ _ _ _ h => nomatch h.1) hf49 (by kernel_rfl) ⟨(hm73.cell 0 rfl rfl), (hm73.cell 0 rfl rfl), trivial⟩ fun a90 hf91 => ?_
    refine all1 1 (by kernel_rfl) ?_
    refine opOf hf91 rfl (by kernel_rfl) (aCall (fid := 38) (args := [.agg #[.slice A2_0 x2.Shape.length c2_0, .slice A2_1 x2.Data.length c2_1]]) (d := 34) hf91 (by kernel_rfl) (by kernel_rfl) callable38 (tensor_May.calls _ _ x2 A2_0 x2.Shape.length c2_0 rfl A2_1 x2.Data.length c2_1 rfl (hm73.give [5, 6] [.sl (Kd.int .i64) A2_0 c2_0 x2.Shape, .sl Kd.float A2_1 c2_1 x2.Data] rfl rfl) r56 hr56) ?_)
    rintro _ w92 a93 ⟨rfl, hk95⟩ hf94
    refine ⟨.inr (Gr.still hk95.cum.none), ?_⟩
    have hm96 := hm73.still hk95.cum.none
    rw [c57] at hf94
    refine quiet0 [2, 3, 4, 5, 6, 7, 8, 9] [.slice A2_0 x2.Shape.length c2_0, .slice A0_0 x0.s.length c0_0] [0, 1, 5, 36, 38, 42] #[true, true, true, true, true, true, true, true, true, true, false, false, false, false] [(0, .pointer (some ⟨b0, 0, none⟩)), (1, .int .i64 x1), (5, .pointer (some ⟨b21, 0, none⟩)), (36, .bool false), (38, .slice A2_0 x2.Shape.length c2_0), (42, .slice A0_0 x0.s.length c0_0)] [.cell ⟨b21, 0, none⟩ (.slice A2_0 x2.Shape.length c2_0), .cell ⟨b0, 0, none⟩ (.slice A0_0 x0.s.length c0_0)] 4 rfl (by kernel_rfl) (fun _ _ _ _ _ h => nomatch h.1) hf94 (by kernel_rfl) ⟨(hm96.cell 0 rfl rfl), (hm96.cell 1 rfl rfl), trivial⟩ fun a97 hf98 => ?_
    refine all1 10 (by kernel_rfl) ?_
    refine opOf hf98 rfl (by kernel_rfl) (aCall (fid := 48) (args := [.slice A2_0 x2.Shape.length c2_0, .slice A0_0 x0.s.length c0_0]) (d := 43) hf98 (by kernel_rfl) (by kernel_rfl) callable48 (shape_Same.calls _ _ x2.Shape A2_0 x2.Shape.length c2_0 rfl x0.s A0_0 x0.s.length c0_0 rfl (hm96.give [5, 4] [.sl (Kd.int .i64) A2_0 c2_0 x2.Shape, .sl (Kd.int .i64) A0_0 c0_0 x0.s] rfl rfl) r58 hr58) ?_)
    rintro _ w99 a100 ⟨rfl, hk102⟩ hf101
    refine ⟨.inr (Gr.still hk102.cum.none), ?_⟩
    have hm103 := hm96.still hk102.cum.none
    rw [c59] at hf101
    refine quiet0 [11, 12, 13] [] [0, 1, 5, 32] #[true, true, true, true, true, true, true, true, true, true, true, true, true, true] [(0, .pointer (some ⟨b0, 0, none⟩)), (1, .int .i64 x1), (5, .pointer (some ⟨b21, 0, none⟩)), (32, .bool false)] [] 0 rfl (by kernel_rfl) (fun _ _ _ _ _ h => nomatch h.1) hf101 (by kernel_rfl) trivial fun a104 hf105 => ?_
    refine allDone (by kernel_rfl) ⟨rfl, hf105.sel (l := [0, 1, 5, 32]) (by kernel_rfl), hm103.sel [0, 1, 2, 3, 4, 5, 6] _ rfl (by kernel_rfl)⟩
  rintro a106 w107 ⟨hf108, hm109⟩
  refine thenN ?_
  refine condF hf108 (by kernel_rfl) ?_
  refine wp_skip ?_
  refine blkN ?_
  refine thenN ?_
  refine wp_seq ?_
  obtain ⟨r110, hr110, H0⟩ := ob_split H0
  obtain ⟨g111, H0⟩ := if_guard H0
  refine midReg (fun (a : Act) (w : World) => Fr 67 a [(0, .pointer (some ⟨b0, 0, none⟩))] ∧ Mem B0 M w0 [.bx b0 [.slice A0_0 x0.s.length c0_0, .slice A0_1 x0.l.length c0_1, .slice A0_2 x0.filled.length c0_2, .int .i64 x0.left] 80, .ow kTensor 28 A0_1 c0_1 (put x0.l x1 r110), .ow Kd.bool 4 A0_2 c0_2 (put x0.filled x1 true), .sl (Kd.int .i64) A0_0 c0_0 x0.s] w) ?_ ?_
  · refine anyG [13, 15] (by kernel_rfl) fun w143 hg144 => ?_
    have hm145 := hm109.still hg144
    refine quiet0 [0, 1, 2, 3, 4, 5, 6, 7, 8, 9, 10] [.slice A0_1 x0.l.length c0_1, .slice A0_2 x0.filled.length c0_2, .agg #[.slice A2_0 x2.Shape.length c2_0, .slice A2_1 x2.Data.length c2_1]] [0, 49, 50, 54, 55, 56] #[true, true, true, true, true, true, true, true, true, true, true, false, false, false, false, false] [(0, .pointer (some ⟨b0, 0, none⟩)), (49, .slice A0_1 x0.l.length c0_1), (50, .int .i64 x1), (54, .slice A0_2 x0.filled.length c0_2), (55, .int .i64 x1), (56, .agg #[.slice A2_0 x2.Shape.length c2_0, .slice A2_1 x2.Data.length c2_1])] [.cell ⟨b0, 1, none⟩ (.slice A0_1 x0.l.length c0_1), .cell ⟨b0, 2, none⟩ (.slice A0_2 x0.filled.length c0_2), .cell ⟨b21, 0, none⟩ (.slice A2_0 x2.Shape.length c2_0), .cell ⟨b21, 1, none⟩ (.slice A2_1 x2.Data.length c2_1)] 5 rfl (by kernel_rfl) (fun _ _ _ _ _ h => nomatch h.1) hf108 (by kernel_rfl) ⟨(hm145.cell 1 rfl rfl), (hm145.cell 1 rfl rfl), (hm145.cell 0 rfl rfl), (hm145.cell 0 rfl rfl), trivial⟩ fun a182 hf183 => ?_
    refine all1 11 (by kernel_rfl) ?_
    refine opOf hf183 rfl (by kernel_rfl) (aCall (fid := 49) (args := [.agg #[.slice A2_0 x2.Shape.length c2_0, .slice A2_1 x2.Data.length c2_1]]) (d := 57) hf183 (by kernel_rfl) (by kernel_rfl) callable49 (tensor_Copy.calls _ _ x2 A2_0 x2.Shape.length c2_0 rfl A2_1 x2.Data.length c2_1 rfl (hm145.give [5, 6] [.sl (Kd.int .i64) A2_0 c2_0 x2.Shape, .sl Kd.float A2_1 c2_1 x2.Data] rfl rfl) r110 hr110) ?_)
    rintro _ w188 a189 ⟨A184, c185, A186, c187, rfl, hk191⟩ hf190
    refine ⟨.inr (Gr.still hk191.cum.none), ?_⟩
    have hm192 := hm145.back hk191
    have hm193 := hm192.seal 0 _ rfl rfl
    have hm194 := hm193.seal 1 _ rfl rfl
    have q195 := (hm194.owAt 4 rfl).cells x1 g111.1 g111.2
    obtain ⟨us196, hr197, hc198⟩ := q195.2
    obtain ⟨A199, c200, A201, c202, rfl, ⟨pA199, sA199⟩, ⟨pA201, sA201⟩⟩ := kTensor.open hr197
    have hm203 := hm194.elem pA199 sA199
    have hm204 := hm203.elem pA201 sA201
    refine quiet0 [12] [] [0, 54, 55, 57, 58] #[true, true, true, true, true, true, true, true, true, true, true, true, true, false, false, false] [(0, .pointer (some ⟨b0, 0, none⟩)), (54, .slice A0_2 x0.filled.length c0_2), (55, .int .i64 x1), (57, .agg #[.slice A184 r110.Shape.length c185, .slice A186 r110.Data.length c187]), (58, .pointer (some ((ad A0_1).add ((x1).toNat * 2))))] [.is (Option.isSome A0_1 = true), .is (0 ≤ x1 ∧ x1 < (x0.l.length : Int))] 3 rfl (by kernel_rfl) (fun _ _ _ _ _ h => nomatch h.1) hf190 (by kernel_rfl) ⟨q195.1, g111, trivial⟩ fun a205 hf206 => ?_
    refine all1 13 (by kernel_rfl) ?_
    refine opOf hf206 rfl (by kernel_rfl) (aStoreO (kd := kTensor) (base := 0) (E := 28) (A := A0_1) (c := c0_1) (xs := x0.l) (i := x1) (x := r110) (us := [.slice A184 r110.Shape.length c185, .slice A186 r110.Data.length c187]) (sz := 2) hf206 (by kernel_rfl) rfl (by kernel_rfl) (hm204.at 6 rfl) (kTensor.mk r110 ⟨hm204.cpAt 2 rfl, (hm204.at2 6 2 rfl rfl).2⟩ ⟨hm204.cpAt 3 rfl, (hm204.at2 6 3 rfl rfl).2⟩) g111.1 g111.2 ?_)
    intro w207 hx208 hg209
    refine ⟨.inl (by decide), ?_⟩
    have hm210 := hm204.setOwn 6 _ rfl rfl hx208 hg209 (.inl rfl)
    have q211 := (hm210.owAt 7 rfl).bool x1 g46.1 g46.2
    refine quiet0 [14] [] [0, 59] #[true, true, true, true, true, true, true, true, true, true, true, true, true, true, true, false] [(0, .pointer (some ⟨b0, 0, none⟩)), (59, .pointer (some ((ad A0_2).add ((x1).toNat * 1))))] [.is (Option.isSome A0_2 = true), .is (0 ≤ x1 ∧ x1 < (x0.filled.length : Int))] 1 rfl (by kernel_rfl) (fun _ _ _ _ _ h => nomatch h.1) hf206 (by kernel_rfl) ⟨q211.1, g46, trivial⟩ fun a212 hf213 => ?_
    refine all1 15 (by kernel_rfl) ?_
    refine opOf hf213 rfl (by kernel_rfl) (aStoreO (kd := Kd.bool) (base := 0) (E := 4) (A := A0_2) (c := c0_2) (xs := x0.filled) (i := x1) (x := true) (us := [.bool true]) (sz := 1) hf213 (by kernel_rfl) rfl (by kernel_rfl) (hm210.at 7 rfl) rfl g46.1 g46.2 ?_)
    intro w214 hx215 hg216
    refine ⟨.inl (by decide), ?_⟩
    have hm217 := hm210.setOwn 7 _ rfl rfl hx215 hg216 (.inl rfl)
    refine allDone (by kernel_rfl) ⟨rfl, hf213.sel (l := [0]) (by kernel_rfl), hm217.sel [5, 6, 7, 8] _ rfl (by kernel_rfl)⟩
  rintro a218 w219 ⟨hf220, hm221⟩
  refine thenN ?_
  refine wp_seq ?_
  refine inReg ?_
  refine go 7 [.int .i64 x0.left] [64, 66] [(64, .int .i64 (w64 (x0.left - 1))), (66, .pointer (some ⟨b0, 3, none⟩))] [.cell ⟨b0, 3, none⟩ (.int .i64 x0.left)] hf220 (by kernel_rfl) ⟨(hm221.cell 0 rfl rfl), trivial⟩ fun a222 hf223 => ?_
  refine listOf hf223 rfl (by kernel_rfl) (aStoreB (b := b0) (j := 3) (T := 80) (cs := [.slice A0_0 x0.s.length c0_0, .slice A0_1 x0.l.length c0_1, .slice A0_2 x0.filled.length c0_2, .int .i64 x0.left]) (us := [.int .i64 (w64 (x0.left - 1))]) (cs' := [.slice A0_0 x0.s.length c0_0, .slice A0_1 x0.l.length c0_1, .slice A0_2 x0.filled.length c0_2, .int .i64 (w64 (x0.left - 1))]) hf223 (by kernel_rfl) (hm221.bxAt 0 rfl) (by kernel_rfl) (by kernel_rfl) (by kernel_rfl) ?_)
  intro w224 hx225 hg226
  have hm227 := hm221.setBox 0 _ rfl rfl hx225 hg226
  refine endL rfl ?_
  refine thenN ?_
  refine wp_seq ?_
  refine reg [] [6] [(6, .int .i64 0)] [] hf223 (by kernel_rfl) trivial fun a228 hf229 => ?_
  refine thenN ?_
  refine wp_ret ?_
  have hm230 : Mem B0 M w0 [.bx b0 [.slice A0_0 x0.s.length c0_0, .slice A0_1 x0.l.length c0_1, .slice A0_2 x0.filled.length c0_2, .int .i64 (w64 (x0.left - 1))] 80, .ow kTensor 28 A0_1 c0_1 (put x0.l x1 r110), .ow Kd.bool 4 A0_2 c0_2 (put x0.filled x1 true)] w224 := hm227.sel [0, 1, 2] _ rfl (by kernel_rfl)
  have hm231 : Mem B0 M w0 [.bx b0 [.slice A0_0 x0.s.length c0_0, .slice A0_1 ((put x0.l x1 r110).length) c0_1, .slice A0_2 ((put x0.filled x1 true).length) c0_2, .int .i64 (w64 (x0.left - 1))] 80, .ow kTensor 28 A0_1 c0_1 (put x0.l x1 r110), .ow Kd.bool 4 A0_2 c0_2 (put x0.filled x1 true)] w224 := by simpa only [put_length] using hm230
  obtain rfl := Option.some.inj H0
  refine ret [] [.int .i64 0] [] hf229 (by kernel_rfl) trivial ?_
  exact ⟨_, rfl, A0_1, c0_1, A0_2, c0_2, rfl, hm231⟩

/-! ### math/bits.Mul64 -/
noncomputable def bits_Mul64.f (x0 : Int) (x1 : Int) : Option (Int × Int) :=
  some ((IntKind.wrap .u64 ((IntKind.wrap .u64 ((IntKind.wrap .u64 ((Int.fdiv x0 (2 ^ 32)) * (Int.fdiv x1 (2 ^ 32)))) + (Int.fdiv (IntKind.wrap .u64 ((IntKind.wrap .u64 ((Int.fdiv x0 (2 ^ 32)) * (bits .and .u64 x1 4294967295))) + (Int.fdiv (IntKind.wrap .u64 ((bits .and .u64 x0 4294967295) * (bits .and .u64 x1 4294967295))) (2 ^ 32)))) (2 ^ 32)))) + (Int.fdiv (IntKind.wrap .u64 ((bits .and .u64 (IntKind.wrap .u64 ((IntKind.wrap .u64 ((Int.fdiv x0 (2 ^ 32)) * (bits .and .u64 x1 4294967295))) + (Int.fdiv (IntKind.wrap .u64 ((bits .and .u64 x0 4294967295) * (bits .and .u64 x1 4294967295))) (2 ^ 32)))) 4294967295) + (IntKind.wrap .u64 ((bits .and .u64 x0 4294967295) * (Int.fdiv x1 (2 ^ 32)))))) (2 ^ 32)))), (IntKind.wrap .u64 (x0 * x1)))
set_option maxRecDepth 100000 in
set_option maxHeartbeats 4000000 in
theorem bits_Mul64.calls (M : List (Option Nat)) (w0 : World) (x0 : Int) (x1 : Int) (hm0 : Mem [] M w0 [] w0) (r : (Int × Int)) (H0 : bits_Mul64.f x0 x1 = some r) :
    Calls Try.prog 93 [.int .u64 x0, .int .u64 x1].toArray w0 (fun x w' => ∃ v, x = .returned v ∧ v = .tuple #[.int .u64 r.1, .int .u64 r.2] ∧ Mem [] M w0 [] w') := by
  unfold bits_Mul64.f at H0
  refine enter (n := 51) Try.func93 rfl rfl (by kernel_rfl) fun a0 (hf0 : Fr 51 a0 [(0, .int .u64 x0), (1, .int .u64 x1)]) => ?_
  refine wp_seq ?_
  refine reg [] [0, 1] [(0, .int .u64 x0), (1, .int .u64 x1)] [] hf0 (by kernel_rfl) trivial fun a21 hf22 => ?_
  refine thenN ?_
  refine wp_seq ?_
  refine reg [] [0, 1, 6] [(0, .int .u64 x0), (1, .int .u64 x1), (6, .int .u64 (bits .and .u64 x0 4294967295))] [] hf22 (by kernel_rfl) trivial fun a23 hf24 => ?_
  refine thenN ?_
  refine wp_seq ?_
  refine reg [] [0, 1, 6, 7] [(0, .int .u64 x0), (1, .int .u64 x1), (6, .int .u64 (bits .and .u64 x0 4294967295)), (7, .int .u64 (Int.fdiv x0 (2 ^ 32)))] [] hf24 (by kernel_rfl) trivial fun a25 hf26 => ?_
  refine thenN ?_
  refine wp_seq ?_
  refine reg [] [0, 1, 6, 7, 8] [(0, .int .u64 x0), (1, .int .u64 x1), (6, .int .u64 (bits .and .u64 x0 4294967295)), (7, .int .u64 (Int.fdiv x0 (2 ^ 32))), (8, .int .u64 (bits .and .u64 x1 4294967295))] [] hf26 (by kernel_rfl) trivial fun a27 hf28 => ?_
  refine thenN ?_
  refine wp_seq ?_
  refine reg [] [0, 1, 6, 7, 8, 9] [(0, .int .u64 x0), (1, .int .u64 x1), (6, .int .u64 (bits .and .u64 x0 4294967295)), (7, .int .u64 (Int.fdiv x0 (2 ^ 32))), (8, .int .u64 (bits .and .u64 x1 4294967295)), (9, .int .u64 (Int.fdiv x1 (2 ^ 32)))] [] hf28 (by kernel_rfl) trivial fun a29 hf30 => ?_
  refine thenN ?_
  refine wp_seq ?_
  refine reg [] [0, 1, 6, 7, 8, 9, 10] [(0, .int .u64 x0), (1, .int .u64 x1), (6, .int .u64 (bits .and .u64 x0 4294967295)), (7, .int .u64 (Int.fdiv x0 (2 ^ 32))), (8, .int .u64 (bits .and .u64 x1 4294967295)), (9, .int .u64 (Int.fdiv x1 (2 ^ 32))), (10, .int .u64 (IntKind.wrap .u64 ((bits .and .u64 x0 4294967295) * (bits .and .u64 x1 4294967295))))] [] hf30 (by kernel_rfl) trivial fun a31 hf32 => ?_
  refine thenN ?_
  refine wp_seq ?_
  refine reg [] [0, 1, 6, 7, 9, 11] [(0, .int .u64 x0), (1, .int .u64 x1), (6, .int .u64 (bits .and .u64 x0 4294967295)), (7, .int .u64 (Int.fdiv x0 (2 ^ 32))), (9, .int .u64 (Int.fdiv x1 (2 ^ 32))), (11, .int .u64 (IntKind.wrap .u64 ((IntKind.wrap .u64 ((Int.fdiv x0 (2 ^ 32)) * (bits .and .u64 x1 4294967295))) + (Int.fdiv (IntKind.wrap .u64 ((bits .and .u64 x0 4294967295) * (bits .and .u64 x1 4294967295))) (2 ^ 32)))))] [] hf32 (by kernel_rfl) trivial fun a33 hf34 => ?_
  refine thenN ?_
  refine wp_seq ?_
  refine reg [] [0, 1, 6, 7, 9, 11, 12] [(0, .int .u64 x0), (1, .int .u64 x1), (6, .int .u64 (bits .and .u64 x0 4294967295)), (7, .int .u64 (Int.fdiv x0 (2 ^ 32))), (9, .int .u64 (Int.fdiv x1 (2 ^ 32))), (11, .int .u64 (IntKind.wrap .u64 ((IntKind.wrap .u64 ((Int.fdiv x0 (2 ^ 32)) * (bits .and .u64 x1 4294967295))) + (Int.fdiv (IntKind.wrap .u64 ((bits .and .u64 x0 4294967295) * (bits .and .u64 x1 4294967295))) (2 ^ 32))))), (12, .int .u64 (bits .and .u64 (IntKind.wrap .u64 ((IntKind.wrap .u64 ((Int.fdiv x0 (2 ^ 32)) * (bits .and .u64 x1 4294967295))) + (Int.fdiv (IntKind.wrap .u64 ((bits .and .u64 x0 4294967295) * (bits .and .u64 x1 4294967295))) (2 ^ 32)))) 4294967295))] [] hf34 (by kernel_rfl) trivial fun a35 hf36 => ?_
  refine thenN ?_
  refine wp_seq ?_
  refine reg [] [0, 1, 6, 7, 9, 12, 13] [(0, .int .u64 x0), (1, .int .u64 x1), (6, .int .u64 (bits .and .u64 x0 4294967295)), (7, .int .u64 (Int.fdiv x0 (2 ^ 32))), (9, .int .u64 (Int.fdiv x1 (2 ^ 32))), (12, .int .u64 (bits .and .u64 (IntKind.wrap .u64 ((IntKind.wrap .u64 ((Int.fdiv x0 (2 ^ 32)) * (bits .and .u64 x1 4294967295))) + (Int.fdiv (IntKind.wrap .u64 ((bits .and .u64 x0 4294967295) * (bits .and .u64 x1 4294967295))) (2 ^ 32)))) 4294967295)), (13, .int .u64 (Int.fdiv (IntKind.wrap .u64 ((IntKind.wrap .u64 ((Int.fdiv x0 (2 ^ 32)) * (bits .and .u64 x1 4294967295))) + (Int.fdiv (IntKind.wrap .u64 ((bits .and .u64 x0 4294967295) * (bits .and .u64 x1 4294967295))) (2 ^ 32)))) (2 ^ 32)))] [] hf36 (by kernel_rfl) trivial fun a37 hf38 => ?_
  refine thenN ?_
  refine wp_seq ?_
  refine reg [] [0, 1, 7, 9, 12, 13] [(0, .int .u64 x0), (1, .int .u64 x1), (7, .int .u64 (Int.fdiv x0 (2 ^ 32))), (9, .int .u64 (Int.fdiv x1 (2 ^ 32))), (12, .int .u64 (IntKind.wrap .u64 ((bits .and .u64 (IntKind.wrap .u64 ((IntKind.wrap .u64 ((Int.fdiv x0 (2 ^ 32)) * (bits .and .u64 x1 4294967295))) + (Int.fdiv (IntKind.wrap .u64 ((bits .and .u64 x0 4294967295) * (bits .and .u64 x1 4294967295))) (2 ^ 32)))) 4294967295) + (IntKind.wrap .u64 ((bits .and .u64 x0 4294967295) * (Int.fdiv x1 (2 ^ 32))))))), (13, .int .u64 (Int.fdiv (IntKind.wrap .u64 ((IntKind.wrap .u64 ((Int.fdiv x0 (2 ^ 32)) * (bits .and .u64 x1 4294967295))) + (Int.fdiv (IntKind.wrap .u64 ((bits .and .u64 x0 4294967295) * (bits .and .u64 x1 4294967295))) (2 ^ 32)))) (2 ^ 32)))] [] hf38 (by kernel_rfl) trivial fun a39 hf40 => ?_
  refine thenN ?_
  refine wp_seq ?_
  refine reg [] [0, 1, 4] [(0, .int .u64 x0), (1, .int .u64 x1), (4, .int .u64 (IntKind.wrap .u64 ((IntKind.wrap .u64 ((IntKind.wrap .u64 ((Int.fdiv x0 (2 ^ 32)) * (Int.fdiv x1 (2 ^ 32)))) + (Int.fdiv (IntKind.wrap .u64 ((IntKind.wrap .u64 ((Int.fdiv x0 (2 ^ 32)) * (bits .and .u64 x1 4294967295))) + (Int.fdiv (IntKind.wrap .u64 ((bits .and .u64 x0 4294967295) * (bits .and .u64 x1 4294967295))) (2 ^ 32)))) (2 ^ 32)))) + (Int.fdiv (IntKind.wrap .u64 ((bits .and .u64 (IntKind.wrap .u64 ((IntKind.wrap .u64 ((Int.fdiv x0 (2 ^ 32)) * (bits .and .u64 x1 4294967295))) + (Int.fdiv (IntKind.wrap .u64 ((bits .and .u64 x0 4294967295) * (bits .and .u64 x1 4294967295))) (2 ^ 32)))) 4294967295) + (IntKind.wrap .u64 ((bits .and .u64 x0 4294967295) * (Int.fdiv x1 (2 ^ 32)))))) (2 ^ 32)))))] [] hf40 (by kernel_rfl) trivial fun a41 hf42 => ?_
  refine thenN ?_
  refine wp_seq ?_
  refine reg [] [4, 5] [(4, .int .u64 (IntKind.wrap .u64 ((IntKind.wrap .u64 ((IntKind.wrap .u64 ((Int.fdiv x0 (2 ^ 32)) * (Int.fdiv x1 (2 ^ 32)))) + (Int.fdiv (IntKind.wrap .u64 ((IntKind.wrap .u64 ((Int.fdiv x0 (2 ^ 32)) * (bits .and .u64 x1 4294967295))) + (Int.fdiv (IntKind.wrap .u64 ((bits .and .u64 x0 4294967295) * (bits .and .u64 x1 4294967295))) (2 ^ 32)))) (2 ^ 32)))) + (Int.fdiv (IntKind.wrap .u64 ((bits .and .u64 (IntKind.wrap .u64 ((IntKind.wrap .u64 ((Int.fdiv x0 (2 ^ 32)) * (bits .and .u64 x1 4294967295))) + (Int.fdiv (IntKind.wrap .u64 ((bits .and .u64 x0 4294967295) * (bits .and .u64 x1 4294967295))) (2 ^ 32)))) 4294967295) + (IntKind.wrap .u64 ((bits .and .u64 x0 4294967295) * (Int.fdiv x1 (2 ^ 32)))))) (2 ^ 32))))), (5, .int .u64 (IntKind.wrap .u64 (x0 * x1)))] [] hf42 (by kernel_rfl) trivial fun a43 hf44 => ?_
  refine thenN ?_
  refine wp_ret ?_
  have hm45 : Mem [] M w0 [] w0 := hm0.sel [] _ rfl (by kernel_rfl)
  obtain rfl := Option.some.inj H0
  refine ret [] [.int .u64 (IntKind.wrap .u64 ((IntKind.wrap .u64 ((IntKind.wrap .u64 ((Int.fdiv x0 (2 ^ 32)) * (Int.fdiv x1 (2 ^ 32)))) + (Int.fdiv (IntKind.wrap .u64 ((IntKind.wrap .u64 ((Int.fdiv x0 (2 ^ 32)) * (bits .and .u64 x1 4294967295))) + (Int.fdiv (IntKind.wrap .u64 ((bits .and .u64 x0 4294967295) * (bits .and .u64 x1 4294967295))) (2 ^ 32)))) (2 ^ 32)))) + (Int.fdiv (IntKind.wrap .u64 ((bits .and .u64 (IntKind.wrap .u64 ((IntKind.wrap .u64 ((Int.fdiv x0 (2 ^ 32)) * (bits .and .u64 x1 4294967295))) + (Int.fdiv (IntKind.wrap .u64 ((bits .and .u64 x0 4294967295) * (bits .and .u64 x1 4294967295))) (2 ^ 32)))) 4294967295) + (IntKind.wrap .u64 ((bits .and .u64 x0 4294967295) * (Int.fdiv x1 (2 ^ 32)))))) (2 ^ 32)))), .int .u64 (IntKind.wrap .u64 (x0 * x1))] [] hf44 (by kernel_rfl) trivial ?_
  exact ⟨_, rfl, rfl, hm45⟩
end Go.Proofs.Ytkcgiolledmbnab
