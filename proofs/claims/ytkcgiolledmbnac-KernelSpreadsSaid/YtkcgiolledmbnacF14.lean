/- Printed by gen.py. -/
import Derived.Test.YtkcgiolledmbnacF0
import Derived.Test.YtkcgiolledmbnacF1
import Derived.Test.YtkcgiolledmbnacF6
namespace Go.Proofs.Ytkcgiolledmbnac
open Go Go.RowKit
set_option linter.unusedSimpArgs false
set_option linter.unusedVariables false
set_option linter.unnecessarySimpa false
/-! ### slices.Clone[[]float64,float64] -/
noncomputable def slices_Clone_float64.f (x0 : (List Nat)) : Option (List Nat) :=
  if 0 + x0.length ≤ 549755813888 then (some (([] : List Nat) ++ x0))
  else none
set_option maxRecDepth 100000 in
set_option maxHeartbeats 4000000 in
theorem slices_Clone_float64.calls (M : List (Option Nat)) (w0 : World) (x0 : (List Nat)) (A0 : Option Addr) (n0 c0 : Nat) (e0 : n0 = x0.length) (hm0 : Mem [] M w0 [.sl Kd.float A0 c0 x0] w0) (r : (List Nat)) (H0 : slices_Clone_float64.f x0 = some r) :
    Calls Try.prog 51 [.slice A0 n0 c0].toArray w0 (fun x w' => ∃ v, x = .returned v ∧ ∃ Ar0 cr0, v = .slice Ar0 r.length cr0 ∧ Mem [] M w0 [.ow Kd.float 26 Ar0 cr0 r] w') := by
  subst e0
  unfold slices_Clone_float64.f at H0
  refine enter (n := 8) Try.func51 rfl rfl (by kernel_rfl) fun a0 (hf0 : Fr 8 a0 [(0, .slice A0 x0.length c0)]) => ?_
  refine wp_seq ?_
  refine reg [] [0] [(0, .slice A0 x0.length c0)] [] hf0 (by kernel_rfl) trivial fun a21 hf22 => ?_
  refine thenN ?_
  refine wp_seq ?_
  refine wp_seq ?_
  rcases A0 with _ | p23
  · obtain rfl := Sl.none (hm0.slAt 0 rfl)
    refine reg [] [0, 4] [(0, .slice none (([] : (List Nat)).length) c0), (4, .bool true)] [] hf22 (by kernel_rfl) trivial fun a24 hf25 => ?_
    refine thenN ?_
    refine condT hf25 (by kernel_rfl) ?_
    refine wp_seq ?_
    refine reg [] [2] [(2, .slice none 0 0)] [] hf25 (by kernel_rfl) trivial fun a26 hf27 => ?_
    have hm28 := hm0.sel [] _ rfl (by kernel_rfl)
    refine thenN ?_
    refine wp_ret ?_
    refine thenR ?_
    have hm29 := hm28.nilOw Kd.float 26
    have hm30 : Mem [] M w0 [.ow Kd.float 26 none 0 ([] : (List Nat))] w0 := hm29.sel [0] _ rfl (by kernel_rfl)
    replace H0 : some ([] : (List Nat)) = some r := by rw [← H0]; simp
    obtain rfl := Option.some.inj H0
    refine ret [] [.slice none 0 0] [] hf27 (by kernel_rfl) trivial ?_
    exact ⟨_, rfl, none, 0, rfl, hm30⟩
  · refine reg [] [0, 4] [(0, .slice (some p23) x0.length c0), (4, .bool false)] [] hf22 (by kernel_rfl) trivial fun a32 hf33 => ?_
    refine thenN ?_
    refine condF hf33 (by kernel_rfl) ?_
    refine wp_skip ?_
    refine thenN ?_
    refine wp_seq ?_
    obtain ⟨g34, H0⟩ := if_guard H0
    refine inReg ?_
    refine listOf hf33 rfl (by kernel_rfl) (aLit (cs := []) (E := 26) (len := 0) (d := 5) hf33 (by kernel_rfl) (by kernel_rfl) ?_)
    intro b35 w36 a37 hbb35 hx39 hg40 hf38
    have hm41 : Mem [] M w0 [.ow Kd.float 26 (some ⟨b35, 0, none⟩) 0 ([] : List Nat), .sl Kd.float (some p23) c0 x0] w36 := Mem.litOwn (kd := Kd.float) (xs := ([] : List Nat)) hm0 hbb35 hx39 hg40 (Els.nil) (by simp [maxLen])
    refine go 1 [] [5, 6] [(5, .slice (some ⟨b35, 0, none⟩) 0 0), (6, .slice (some p23) x0.length c0)] [] hf38 (by kernel_rfl) trivial fun a42 hf43 => ?_
    have e52 : 0 = ([] : List Nat).length := rfl
    have e53 : x0.length = x0.length := rfl
    refine listOf hf43 rfl (by kernel_rfl) (aApp (kd := Kd.float) (base := 0) (E := 26) (A := (some ⟨b35, 0, none⟩)) (B := (some p23)) (c := 0) (c2 := c0) (xs := ([] : List Nat)) (ys := x0) (k := 0) (m := x0.length) (sz := 1) (d := 7) hf43 (by kernel_rfl) e52 e53 (by kernel_rfl) rfl (by kernel_rfl) (hm41.at 0 rfl) (hm41.at2 0 1 rfl rfl).2 (hm41.cpAt 1 rfl) (Nat.zero_le _) (by have := g34; omega) ?_)
    intro A44 c45 w46 a47 ho49 hg50 hr51 hf48
    have hm54 := hm41.setOwn 0 _ rfl rfl ho49 hg50 hr51
    refine go 1 [] [2] [(2, .slice A44 ((([] : List Nat) ++ x0).length) c45)] [] hf48 (by kernel_rfl) trivial fun a55 hf56 => ?_
    refine endL rfl ?_
    have hm57 := hm54.sel [0] _ rfl (by kernel_rfl)
    refine thenN ?_
    refine wp_ret ?_
    have hm58 : Mem [] M w0 [.ow Kd.float 26 A44 c45 (([] : List Nat) ++ x0)] w46 := hm57.sel [0] _ rfl (by kernel_rfl)
    obtain rfl := Option.some.inj H0
    refine ret [] [.slice A44 ((([] : List Nat) ++ x0).length) c45] [] hf56 (by kernel_rfl) trivial ?_
    exact ⟨_, rfl, A44, c45, rfl, hm58⟩

/-! ### backstitch/tensor.Copy -/
noncomputable def tensor_Copy.f (x0 : Tensor) : Option Tensor :=
  (slices_Clone_int.f x0.Shape).bind fun r35 =>
  (slices_Clone_float64.f x0.Data).bind fun r36 =>
  some (⟨r35, r36⟩ : Tensor)
set_option maxRecDepth 100000 in
set_option maxHeartbeats 4000000 in
theorem tensor_Copy.calls (M : List (Option Nat)) (w0 : World) (x0 : Tensor) (A0_0 : Option Addr) (n0_0 c0_0 : Nat) (e0_0 : n0_0 = x0.Shape.length) (A0_1 : Option Addr) (n0_1 c0_1 : Nat) (e0_1 : n0_1 = x0.Data.length) (hm0 : Mem [] M w0 [.sl (Kd.int .i64) A0_0 c0_0 x0.Shape, .sl Kd.float A0_1 c0_1 x0.Data] w0) (r : Tensor) (H0 : tensor_Copy.f x0 = some r) :
    Calls Try.prog 28 [.agg #[.slice A0_0 n0_0 c0_0, .slice A0_1 n0_1 c0_1]].toArray w0 (fun x w' => ∃ v, x = .returned v ∧ ∃ Ar0_0 cr0_0 Ar0_1 cr0_1, v = .agg #[.slice Ar0_0 r.Shape.length cr0_0, .slice Ar0_1 r.Data.length cr0_1] ∧ Mem [] M w0 [.ow (Kd.int .i64) 3 Ar0_0 cr0_0 r.Shape, .ow Kd.float 26 Ar0_1 cr0_1 r.Data] w') := by
  subst e0_0
  subst e0_1
  unfold tensor_Copy.f at H0
  refine enter (n := 10) Try.func28 rfl rfl (by kernel_rfl) fun a0 (hf0 : Fr 10 a0 [(0, .agg #[.slice A0_0 x0.Shape.length c0_0, .slice A0_1 x0.Data.length c0_1])]) => ?_
  refine wp_seq ?_
  refine inReg ?_
  refine listOf hf0 rfl (by kernel_rfl) (aNew (cs := [.slice A0_0 x0.Shape.length c0_0, .slice A0_1 x0.Data.length c0_1]) (T := 25) (d := 1) hf0 (by kernel_rfl) (by kernel_rfl) ?_)
  intro b21 w22 a23 hbb21 hx25 hg26 hf24
  have hm27 := hm0.box hbb21 hx25 hg26
  refine listOf hf24 rfl (by kernel_rfl) (aNew (cs := [.slice none 0 0, .slice none 0 0]) (T := 25) (d := 2) hf24 (by kernel_rfl) (by kernel_rfl) ?_)
  intro b28 w29 a30 hbb28 hx32 hg33 hf31
  have hm34 := hm27.box hbb28 hx32 hg33
  refine endL rfl ?_
  refine thenN ?_
  refine wp_seq ?_
  obtain ⟨r35, hr35, H0⟩ := ob_split H0
  obtain ⟨r36, hr36, H0⟩ := ob_split H0
  refine midReg (fun (a : Act) (w : World) => ∃ (A44 : Option Addr) (c45 : Nat) (A37 : Option Addr) (c38 : Nat), Fr 10 a [(2, .pointer (some ⟨b28, 0, none⟩))] ∧ Mem [] M w0 [.ow Kd.float 26 A44 c45 r36, .ow (Kd.int .i64) 3 A37 c38 r35, .bx b28 [.slice A37 r35.length c38, .slice A44 r36.length c45] 25] w) ?_ ?_
  · refine anyG [7] (by kernel_rfl) fun w56 hg57 => ?_
    have hm58 := hm34.still hg57
    refine quiet0 [0, 1, 3, 4] [.slice A0_0 x0.Shape.length c0_0, .slice A0_1 x0.Data.length c0_1] [2, 4, 7] #[true, true, false, true, true, false, false, false] [(2, .pointer (some ⟨b28, 0, none⟩)), (4, .slice A0_0 x0.Shape.length c0_0), (7, .slice A0_1 x0.Data.length c0_1)] [.cell ⟨b21, 0, none⟩ (.slice A0_0 x0.Shape.length c0_0), .cell ⟨b21, 1, none⟩ (.slice A0_1 x0.Data.length c0_1)] 4 rfl (by kernel_rfl) (fun _ _ _ _ _ h => nomatch h.1) hf31 (by kernel_rfl) ⟨(hm58.cell 1 rfl rfl), (hm58.cell 1 rfl rfl), trivial⟩ fun a82 hf83 => ?_
    refine all1 2 (by kernel_rfl) ?_
    refine opOf hf83 rfl (by kernel_rfl) (aCall (fid := 43) (args := [.slice A0_0 x0.Shape.length c0_0]) (d := 5) hf83 (by kernel_rfl) (by kernel_rfl) callable43 (slices_Clone_int.calls _ _ x0.Shape A0_0 x0.Shape.length c0_0 rfl (hm58.give [2] [.sl (Kd.int .i64) A0_0 c0_0 x0.Shape] rfl rfl) r35 hr35) ?_)
    rintro _ w86 a87 ⟨A84, c85, rfl, hk89⟩ hf88
    refine ⟨.inr (Gr.still hk89.cum.none), ?_⟩
    have hm90 := hm58.back hk89
    refine all1 5 (by kernel_rfl) ?_
    refine opOf hf88 rfl (by kernel_rfl) (aCall (fid := 51) (args := [.slice A0_1 x0.Data.length c0_1]) (d := 8) hf88 (by kernel_rfl) (by kernel_rfl) callable51 (slices_Clone_float64.calls _ _ x0.Data A0_1 x0.Data.length c0_1 rfl (hm90.give [4] [.sl Kd.float A0_1 c0_1 x0.Data] rfl rfl) r36 hr36) ?_)
    rintro _ w93 a94 ⟨A91, c92, rfl, hk96⟩ hf95
    refine ⟨.inr (Gr.still hk96.cum.none), ?_⟩
    have hm97 := hm90.back hk96
    refine quiet0 [6] [] [2, 9] #[true, true, true, true, true, true, true, false] [(2, .pointer (some ⟨b28, 0, none⟩)), (9, .agg #[.slice A84 r35.length c85, .slice A91 r36.length c92])] [] 1 rfl (by kernel_rfl) (fun _ _ _ _ _ h => nomatch h.1) hf95 (by kernel_rfl) trivial fun a98 hf99 => ?_
    refine all1 7 (by kernel_rfl) ?_
    refine opOf hf99 rfl (by kernel_rfl) (aStoreB (b := b28) (j := 0) (T := 25) (cs := [.slice none 0 0, .slice none 0 0]) (us := [.slice A84 r35.length c85, .slice A91 r36.length c92]) (cs' := [.slice A84 r35.length c85, .slice A91 r36.length c92]) hf99 (by kernel_rfl) (hm97.bxAt 2 rfl) (by kernel_rfl) (by kernel_rfl) (by kernel_rfl) ?_)
    intro w100 hx101 hg102
    refine ⟨.inl (by decide), ?_⟩
    have hm103 := hm97.setBox 2 _ rfl rfl hx101 hg102
    refine allDone (by kernel_rfl) ⟨rfl, A91, c92, A84, c85, hf99.sel (l := [2]) (by kernel_rfl), hm103.sel [0, 1, 2] _ rfl (by kernel_rfl)⟩
  rintro a104 w105 ⟨A44, c45, A37, c38, hf106, hm107⟩
  refine thenN ?_
  refine wp_ret ?_
  have hm108 : Mem [] M w0 [.ow (Kd.int .i64) 3 A37 c38 r35, .ow Kd.float 26 A44 c45 r36] w105 := hm107.sel [1, 0] _ rfl (by kernel_rfl)
  obtain rfl := Option.some.inj H0
  refine ret [.agg #[.slice A37 r35.length c38, .slice A44 r36.length c45]] [.agg #[.slice A37 r35.length c38, .slice A44 r36.length c45]] [.cell ⟨b28, 0, none⟩ (.slice A37 r35.length c38), .cell ⟨b28, 1, none⟩ (.slice A44 r36.length c45)] hf106 (by kernel_rfl) ⟨(hm107.cell 2 rfl rfl), (hm107.cell 2 rfl rfl), trivial⟩ ?_
  exact ⟨_, rfl, A37, c38, A44, c45, rfl, hm108⟩

/-! ### backstitch/kernel.Reshape -/
noncomputable def kernel_Reshape.f (x0 : Tensor) (x1 : (List Int)) : Option (Tensor × Int) :=
  (tensor_May.f x0).bind fun r37 =>
  if r37 = true then ((shape_Size.f x1).bind fun r48 =>
  if r48.2 = 0 then (if r48.1 = (x0.Data.length : Int) then ((tensor_Copy.f (⟨x1, x0.Data⟩ : Tensor)).bind fun r65 =>
  some (r65, 0))
  else (some ((⟨([] : (List Int)), ([] : (List Nat))⟩ : Tensor), 3)))
  else (some ((⟨([] : (List Int)), ([] : (List Nat))⟩ : Tensor), r48.2)))
  else (some ((⟨([] : (List Int)), ([] : (List Nat))⟩ : Tensor), 2))
set_option maxRecDepth 100000 in
set_option maxHeartbeats 4000000 in
theorem kernel_Reshape.calls (M : List (Option Nat)) (w0 : World) (x0 : Tensor) (A0_0 : Option Addr) (n0_0 c0_0 : Nat) (e0_0 : n0_0 = x0.Shape.length) (A0_1 : Option Addr) (n0_1 c0_1 : Nat) (e0_1 : n0_1 = x0.Data.length) (x1 : (List Int)) (A1 : Option Addr) (n1 c1 : Nat) (e1 : n1 = x1.length) (hm0 : Mem [] M w0 [.sl (Kd.int .i64) A0_0 c0_0 x0.Shape, .sl Kd.float A0_1 c0_1 x0.Data, .sl (Kd.int .i64) A1 c1 x1] w0) (r : (Tensor × Int)) (H0 : kernel_Reshape.f x0 x1 = some r) :
    Calls Try.prog 20 [.agg #[.slice A0_0 n0_0 c0_0, .slice A0_1 n0_1 c0_1], .slice A1 n1 c1].toArray w0 (fun x w' => ∃ v, x = .returned v ∧ ∃ Ar0_0 cr0_0 Ar0_1 cr0_1, v = .tuple #[.agg #[.slice Ar0_0 r.1.Shape.length cr0_0, .slice Ar0_1 r.1.Data.length cr0_1], .int .i64 r.2] ∧ Mem [] M w0 [.ow (Kd.int .i64) 3 Ar0_0 cr0_0 r.1.Shape, .ow Kd.float 26 Ar0_1 cr0_1 r.1.Data] w') := by
  subst e0_0
  subst e0_1
  subst e1
  unfold kernel_Reshape.f at H0
  refine enter (n := 34) Try.func20 rfl rfl (by kernel_rfl) fun a0 (hf0 : Fr 34 a0 [(0, .agg #[.slice A0_0 x0.Shape.length c0_0, .slice A0_1 x0.Data.length c0_1]), (1, .slice A1 x1.length c1)]) => ?_
  refine wp_seq ?_
  refine inReg ?_
  refine listOf hf0 rfl (by kernel_rfl) (aNew (cs := [.slice A0_0 x0.Shape.length c0_0, .slice A0_1 x0.Data.length c0_1]) (T := 25) (d := 2) hf0 (by kernel_rfl) (by kernel_rfl) ?_)
  intro b21 w22 a23 hbb21 hx25 hg26 hf24
  have hm27 := hm0.box hbb21 hx25 hg26
  refine listOf hf24 rfl (by kernel_rfl) (aNew (cs := [.slice none 0 0, .slice none 0 0]) (T := 25) (d := 4) hf24 (by kernel_rfl) (by kernel_rfl) ?_)
  intro b28 w29 a30 hbb28 hx32 hg33 hf31
  have hm34 := hm27.box hbb28 hx32 hg33
  refine go 1 [] [1, 2, 4] [(1, .slice A1 x1.length c1), (2, .pointer (some ⟨b21, 0, none⟩)), (4, .pointer (some ⟨b28, 0, none⟩))] [] hf31 (by kernel_rfl) trivial fun a35 hf36 => ?_
  refine endL rfl ?_
  refine thenN ?_
  refine wp_seq ?_
  refine wp_seq ?_
  obtain ⟨r37, hr37, H0⟩ := ob_split H0
  rcases ifb_split H0 with ⟨c38, H0⟩ | ⟨c38, H0⟩
  rotate_left
  · refine inReg ?_
    refine go 1 [.agg #[.slice A0_0 x0.Shape.length c0_0, .slice A0_1 x0.Data.length c0_1]] [1, 2, 4, 8] [(1, .slice A1 x1.length c1), (2, .pointer (some ⟨b21, 0, none⟩)), (4, .pointer (some ⟨b28, 0, none⟩)), (8, .agg #[.slice A0_0 x0.Shape.length c0_0, .slice A0_1 x0.Data.length c0_1])] [.cell ⟨b21, 0, none⟩ (.slice A0_0 x0.Shape.length c0_0), .cell ⟨b21, 1, none⟩ (.slice A0_1 x0.Data.length c0_1)] hf36 (by kernel_rfl) ⟨(hm34.cell 1 rfl rfl), (hm34.cell 1 rfl rfl), trivial⟩ fun a116 hf117 => ?_
    refine listOf hf117 rfl (by kernel_rfl) (aCall (fid := 25) (args := [.agg #[.slice A0_0 x0.Shape.length c0_0, .slice A0_1 x0.Data.length c0_1]]) (d := 9) hf117 (by kernel_rfl) (by kernel_rfl) callable25 (tensor_May.calls _ _ x0 A0_0 x0.Shape.length c0_0 rfl A0_1 x0.Data.length c0_1 rfl (hm34.give [2, 3] [.sl (Kd.int .i64) A0_0 c0_0 x0.Shape, .sl Kd.float A0_1 c0_1 x0.Data] rfl rfl) r37 hr37) ?_)
    rintro _ w118 a119 ⟨rfl, hk121⟩ hf120
    have hm122 := hm34.still hk121.cum.none
    rw [c38] at hf120
    refine go 1 [] [1, 2, 4, 10] [(1, .slice A1 x1.length c1), (2, .pointer (some ⟨b21, 0, none⟩)), (4, .pointer (some ⟨b28, 0, none⟩)), (10, .bool true)] [] hf120 (by kernel_rfl) trivial fun a123 hf124 => ?_
    refine endL rfl ?_
    refine thenN ?_
    refine condT hf124 (by kernel_rfl) ?_
    refine wp_seq ?_
    refine inReg ?_
    refine go 1 [] [4, 11] [(4, .pointer (some ⟨b28, 0, none⟩)), (11, .agg #[.slice none 0 0, .slice none 0 0])] [] hf124 (by kernel_rfl) trivial fun a125 hf126 => ?_
    refine listOf hf126 rfl (by kernel_rfl) (aStoreB (b := b28) (j := 0) (T := 25) (cs := [.slice none 0 0, .slice none 0 0]) (us := [.slice none 0 0, .slice none 0 0]) (cs' := [.slice none 0 0, .slice none 0 0]) hf126 (by kernel_rfl) (hm122.bxAt 0 rfl) (by kernel_rfl) (by kernel_rfl) (by kernel_rfl) ?_)
    intro w127 hx128 hg129
    have hm130 := hm122.setBox 0 _ rfl rfl hx128 hg129
    refine go 1 [] [4, 5] [(4, .pointer (some ⟨b28, 0, none⟩)), (5, .int .i64 2)] [] hf126 (by kernel_rfl) trivial fun a131 hf132 => ?_
    refine endL rfl ?_
    have hm133 := hm130.sel [0] _ rfl (by kernel_rfl)
    refine thenN ?_
    refine wp_ret ?_
    refine thenR ?_
    have hm134 := hm133.nilOw (Kd.int .i64) 3
    have hm135 := hm134.nilOw Kd.float 26
    have hm136 : Mem [] M w0 [.ow (Kd.int .i64) 3 none 0 ([] : (List Int)), .ow Kd.float 26 none 0 ([] : (List Nat))] w127 := hm135.sel [1, 0] _ rfl (by kernel_rfl)
    obtain rfl := Option.some.inj H0
    refine ret [.agg #[.slice none 0 0, .slice none 0 0]] [.agg #[.slice none 0 0, .slice none 0 0], .int .i64 2] [.cell ⟨b28, 0, none⟩ (.slice none 0 0), .cell ⟨b28, 1, none⟩ (.slice none 0 0)] hf132 (by kernel_rfl) ⟨(hm133.cell 0 rfl rfl), (hm133.cell 0 rfl rfl), trivial⟩ ?_
    exact ⟨_, rfl, none, 0, none, 0, rfl, hm136⟩
  refine inReg ?_
  refine go 1 [.agg #[.slice A0_0 x0.Shape.length c0_0, .slice A0_1 x0.Data.length c0_1]] [1, 2, 4, 8] [(1, .slice A1 x1.length c1), (2, .pointer (some ⟨b21, 0, none⟩)), (4, .pointer (some ⟨b28, 0, none⟩)), (8, .agg #[.slice A0_0 x0.Shape.length c0_0, .slice A0_1 x0.Data.length c0_1])] [.cell ⟨b21, 0, none⟩ (.slice A0_0 x0.Shape.length c0_0), .cell ⟨b21, 1, none⟩ (.slice A0_1 x0.Data.length c0_1)] hf36 (by kernel_rfl) ⟨(hm34.cell 1 rfl rfl), (hm34.cell 1 rfl rfl), trivial⟩ fun a39 hf40 => ?_
  refine listOf hf40 rfl (by kernel_rfl) (aCall (fid := 25) (args := [.agg #[.slice A0_0 x0.Shape.length c0_0, .slice A0_1 x0.Data.length c0_1]]) (d := 9) hf40 (by kernel_rfl) (by kernel_rfl) callable25 (tensor_May.calls _ _ x0 A0_0 x0.Shape.length c0_0 rfl A0_1 x0.Data.length c0_1 rfl (hm34.give [2, 3] [.sl (Kd.int .i64) A0_0 c0_0 x0.Shape, .sl Kd.float A0_1 c0_1 x0.Data] rfl rfl) r37 hr37) ?_)
  rintro _ w41 a42 ⟨rfl, hk44⟩ hf43
  have hm45 := hm34.still hk44.cum.none
  rw [c38] at hf43
  refine go 1 [] [1, 2, 4, 10] [(1, .slice A1 x1.length c1), (2, .pointer (some ⟨b21, 0, none⟩)), (4, .pointer (some ⟨b28, 0, none⟩)), (10, .bool false)] [] hf43 (by kernel_rfl) trivial fun a46 hf47 => ?_
  refine endL rfl ?_
  refine thenN ?_
  refine condF hf47 (by kernel_rfl) ?_
  refine wp_skip ?_
  refine thenN ?_
  refine wp_seq ?_
  obtain ⟨r48, hr48, H0⟩ := ob_split H0
  refine inReg ?_
  refine go 1 [] [1, 2, 4, 13] [(1, .slice A1 x1.length c1), (2, .pointer (some ⟨b21, 0, none⟩)), (4, .pointer (some ⟨b28, 0, none⟩)), (13, .slice A1 x1.length c1)] [] hf47 (by kernel_rfl) trivial fun a49 hf50 => ?_
  refine listOf hf50 rfl (by kernel_rfl) (aCall (fid := 41) (args := [.slice A1 x1.length c1]) (d := 14) hf50 (by kernel_rfl) (by kernel_rfl) callable41 (shape_Size.calls _ _ x1 A1 x1.length c1 rfl (hm45.give [4] [.sl (Kd.int .i64) A1 c1 x1] rfl rfl) r48 hr48) ?_)
  rintro _ w51 a52 ⟨rfl, hk54⟩ hf53
  have hm55 := hm45.still hk54.cum.none
  refine go 5 [] [1, 2, 4, 6, 7] [(1, .slice A1 x1.length c1), (2, .pointer (some ⟨b21, 0, none⟩)), (4, .pointer (some ⟨b28, 0, none⟩)), (6, .int .i64 r48.1), (7, .int .i64 r48.2)] [] hf53 (by kernel_rfl) trivial fun a56 hf57 => ?_
  refine endL rfl ?_
  refine thenN ?_
  refine wp_seq ?_
  refine wp_block ?_
  refine wp_seq ?_
  rcases if_split H0 with ⟨c58, H0⟩ | ⟨c58, H0⟩
  rotate_left
  · refine reg [.bool true] [1, 2, 4, 6, 7, 17] [(1, .slice A1 x1.length c1), (2, .pointer (some ⟨b21, 0, none⟩)), (4, .pointer (some ⟨b28, 0, none⟩)), (6, .int .i64 r48.1), (7, .int .i64 r48.2), (17, .bool true)] [.is (((r48.2 : Int) != 0) = true)] hf57 (by kernel_rfl) ⟨(neT c58), trivial⟩ fun a101 hf102 => ?_
    refine thenN ?_
    refine condT hf102 (by kernel_rfl) ?_
    refine wp_seq ?_
    refine inReg ?_
    refine go 2 [] [4, 20, 21] [(4, .pointer (some ⟨b28, 0, none⟩)), (20, .agg #[.slice none 0 0, .slice none 0 0]), (21, .int .i64 r48.2)] [] hf102 (by kernel_rfl) trivial fun a103 hf104 => ?_
    refine listOf hf104 rfl (by kernel_rfl) (aStoreB (b := b28) (j := 0) (T := 25) (cs := [.slice none 0 0, .slice none 0 0]) (us := [.slice none 0 0, .slice none 0 0]) (cs' := [.slice none 0 0, .slice none 0 0]) hf104 (by kernel_rfl) (hm55.bxAt 0 rfl) (by kernel_rfl) (by kernel_rfl) (by kernel_rfl) ?_)
    intro w105 hx106 hg107
    have hm108 := hm55.setBox 0 _ rfl rfl hx106 hg107
    refine go 1 [] [4, 5] [(4, .pointer (some ⟨b28, 0, none⟩)), (5, .int .i64 r48.2)] [] hf104 (by kernel_rfl) trivial fun a109 hf110 => ?_
    refine endL rfl ?_
    have hm111 := hm108.sel [0] _ rfl (by kernel_rfl)
    refine thenN ?_
    refine wp_ret ?_
    refine blkR ?_
    refine thenR ?_
    have hm112 := hm111.nilOw (Kd.int .i64) 3
    have hm113 := hm112.nilOw Kd.float 26
    have hm114 : Mem [] M w0 [.ow (Kd.int .i64) 3 none 0 ([] : (List Int)), .ow Kd.float 26 none 0 ([] : (List Nat))] w105 := hm113.sel [1, 0] _ rfl (by kernel_rfl)
    obtain rfl := Option.some.inj H0
    refine ret [.agg #[.slice none 0 0, .slice none 0 0]] [.agg #[.slice none 0 0, .slice none 0 0], .int .i64 r48.2] [.cell ⟨b28, 0, none⟩ (.slice none 0 0), .cell ⟨b28, 1, none⟩ (.slice none 0 0)] hf110 (by kernel_rfl) ⟨(hm111.cell 0 rfl rfl), (hm111.cell 0 rfl rfl), trivial⟩ ?_
    exact ⟨_, rfl, none, 0, none, 0, rfl, hm114⟩
  refine reg [.bool false] [1, 2, 4, 6, 7, 17] [(1, .slice A1 x1.length c1), (2, .pointer (some ⟨b21, 0, none⟩)), (4, .pointer (some ⟨b28, 0, none⟩)), (6, .int .i64 r48.1), (7, .int .i64 r48.2), (17, .bool false)] [.is (((r48.2 : Int) != 0) = false)] hf57 (by kernel_rfl) ⟨(neF c58), trivial⟩ fun a59 hf60 => ?_
  refine thenN ?_
  refine condF hf60 (by kernel_rfl) ?_
  refine wp_seq ?_
  rcases if_split H0 with ⟨c61, H0⟩ | ⟨c61, H0⟩
  rotate_left
  · refine reg [.slice A0_1 x0.Data.length c0_1, .bool true] [1, 2, 4, 22] [(1, .slice A1 x1.length c1), (2, .pointer (some ⟨b21, 0, none⟩)), (4, .pointer (some ⟨b28, 0, none⟩)), (22, .bool true)] [.cell ⟨b21, 1, none⟩ (.slice A0_1 x0.Data.length c0_1), .is (((r48.1 : Int) != (x0.Data.length : Int)) = true)] hf60 (by kernel_rfl) ⟨(hm55.cell 1 rfl rfl), (neT c61), trivial⟩ fun a86 hf87 => ?_
    refine thenN ?_
    refine condT hf87 (by kernel_rfl) ?_
    refine wp_seq ?_
    refine inReg ?_
    refine go 1 [] [4, 28] [(4, .pointer (some ⟨b28, 0, none⟩)), (28, .agg #[.slice none 0 0, .slice none 0 0])] [] hf87 (by kernel_rfl) trivial fun a88 hf89 => ?_
    refine listOf hf89 rfl (by kernel_rfl) (aStoreB (b := b28) (j := 0) (T := 25) (cs := [.slice none 0 0, .slice none 0 0]) (us := [.slice none 0 0, .slice none 0 0]) (cs' := [.slice none 0 0, .slice none 0 0]) hf89 (by kernel_rfl) (hm55.bxAt 0 rfl) (by kernel_rfl) (by kernel_rfl) (by kernel_rfl) ?_)
    intro w90 hx91 hg92
    have hm93 := hm55.setBox 0 _ rfl rfl hx91 hg92
    refine go 1 [] [4, 5] [(4, .pointer (some ⟨b28, 0, none⟩)), (5, .int .i64 3)] [] hf89 (by kernel_rfl) trivial fun a94 hf95 => ?_
    refine endL rfl ?_
    have hm96 := hm93.sel [0] _ rfl (by kernel_rfl)
    refine thenN ?_
    refine wp_ret ?_
    refine blkR ?_
    refine thenR ?_
    have hm97 := hm96.nilOw (Kd.int .i64) 3
    have hm98 := hm97.nilOw Kd.float 26
    have hm99 : Mem [] M w0 [.ow (Kd.int .i64) 3 none 0 ([] : (List Int)), .ow Kd.float 26 none 0 ([] : (List Nat))] w90 := hm98.sel [1, 0] _ rfl (by kernel_rfl)
    obtain rfl := Option.some.inj H0
    refine ret [.agg #[.slice none 0 0, .slice none 0 0]] [.agg #[.slice none 0 0, .slice none 0 0], .int .i64 3] [.cell ⟨b28, 0, none⟩ (.slice none 0 0), .cell ⟨b28, 1, none⟩ (.slice none 0 0)] hf95 (by kernel_rfl) ⟨(hm96.cell 0 rfl rfl), (hm96.cell 0 rfl rfl), trivial⟩ ?_
    exact ⟨_, rfl, none, 0, none, 0, rfl, hm99⟩
  refine reg [.slice A0_1 x0.Data.length c0_1, .bool false] [1, 2, 4, 22] [(1, .slice A1 x1.length c1), (2, .pointer (some ⟨b21, 0, none⟩)), (4, .pointer (some ⟨b28, 0, none⟩)), (22, .bool false)] [.cell ⟨b21, 1, none⟩ (.slice A0_1 x0.Data.length c0_1), .is (((r48.1 : Int) != (x0.Data.length : Int)) = false)] hf60 (by kernel_rfl) ⟨(hm55.cell 1 rfl rfl), (neF c61), trivial⟩ fun a62 hf63 => ?_
  refine thenN ?_
  refine condF hf63 (by kernel_rfl) ?_
  refine wp_skip ?_
  refine blkN ?_
  refine thenN ?_
  refine wp_seq ?_
  obtain ⟨r65, hr65, H0⟩ := ob_split H0
  refine inReg ?_
  refine go 4 [.slice A0_1 x0.Data.length c0_1] [4, 32] [(4, .pointer (some ⟨b28, 0, none⟩)), (32, .agg #[.slice A1 x1.length c1, .slice A0_1 x0.Data.length c0_1])] [.cell ⟨b21, 1, none⟩ (.slice A0_1 x0.Data.length c0_1)] hf63 (by kernel_rfl) ⟨(hm55.cell 1 rfl rfl), trivial⟩ fun a66 hf67 => ?_
  refine listOf hf67 rfl (by kernel_rfl) (aCall (fid := 28) (args := [.agg #[.slice A1 x1.length c1, .slice A0_1 x0.Data.length c0_1]]) (d := 33) hf67 (by kernel_rfl) (by kernel_rfl) callable28 (tensor_Copy.calls _ _ (⟨x1, x0.Data⟩ : Tensor) A1 x1.length c1 rfl A0_1 x0.Data.length c0_1 rfl (hm55.give [4, 3] [.sl (Kd.int .i64) A1 c1 x1, .sl Kd.float A0_1 c0_1 x0.Data] rfl rfl) r65 hr65) ?_)
  rintro _ w72 a73 ⟨A68, c69, A70, c71, rfl, hk75⟩ hf74
  have hm76 := hm55.back hk75
  refine listOf hf74 rfl (by kernel_rfl) (aStoreB (b := b28) (j := 0) (T := 25) (cs := [.slice none 0 0, .slice none 0 0]) (us := [.slice A68 r65.Shape.length c69, .slice A70 r65.Data.length c71]) (cs' := [.slice A68 r65.Shape.length c69, .slice A70 r65.Data.length c71]) hf74 (by kernel_rfl) (hm76.bxAt 2 rfl) (by kernel_rfl) (by kernel_rfl) (by kernel_rfl) ?_)
  intro w77 hx78 hg79
  have hm80 := hm76.setBox 2 _ rfl rfl hx78 hg79
  refine go 1 [] [4, 5] [(4, .pointer (some ⟨b28, 0, none⟩)), (5, .int .i64 0)] [] hf74 (by kernel_rfl) trivial fun a81 hf82 => ?_
  refine endL rfl ?_
  have hm83 := hm80.sel [0, 1, 2] _ rfl (by kernel_rfl)
  refine thenN ?_
  refine wp_ret ?_
  have hm84 : Mem [] M w0 [.ow (Kd.int .i64) 3 A68 c69 r65.Shape, .ow Kd.float 26 A70 c71 r65.Data] w77 := hm83.sel [0, 1] _ rfl (by kernel_rfl)
  obtain rfl := Option.some.inj H0
  refine ret [.agg #[.slice A68 r65.Shape.length c69, .slice A70 r65.Data.length c71]] [.agg #[.slice A68 r65.Shape.length c69, .slice A70 r65.Data.length c71], .int .i64 0] [.cell ⟨b28, 0, none⟩ (.slice A68 r65.Shape.length c69), .cell ⟨b28, 1, none⟩ (.slice A70 r65.Data.length c71)] hf82 (by kernel_rfl) ⟨(hm83.cell 2 rfl rfl), (hm83.cell 2 rfl rfl), trivial⟩ ?_
  exact ⟨_, rfl, A68, c69, A70, c71, rfl, hm84⟩

/-! ### backstitch/backstitchref1.Reshape -/
noncomputable def ref1_Reshape.f (x0 : Tensor) (x1 : (List Int)) : Option (Tensor × Int) :=
  (ref1_TensorMay.f x0).bind fun r37 =>
  if r37 = true then ((ref1_Size.f x1).bind fun r48 =>
  if r48.2 = 0 then (if r48.1 = (x0.Data.length : Int) then (if 0 + x1.length ≤ 549755813888 then (if 0 + x0.Data.length ≤ 549755813888 then (some ((⟨(([] : (List Int)) ++ x1), (([] : (List Nat)) ++ x0.Data)⟩ : Tensor), 0))
  else none)
  else none)
  else (some ((⟨([] : (List Int)), ([] : (List Nat))⟩ : Tensor), 3)))
  else (some ((⟨([] : (List Int)), ([] : (List Nat))⟩ : Tensor), r48.2)))
  else (some ((⟨([] : (List Int)), ([] : (List Nat))⟩ : Tensor), 2))
set_option maxRecDepth 100000 in
set_option maxHeartbeats 4000000 in
theorem ref1_Reshape.calls (M : List (Option Nat)) (w0 : World) (x0 : Tensor) (A0_0 : Option Addr) (n0_0 c0_0 : Nat) (e0_0 : n0_0 = x0.Shape.length) (A0_1 : Option Addr) (n0_1 c0_1 : Nat) (e0_1 : n0_1 = x0.Data.length) (x1 : (List Int)) (A1 : Option Addr) (n1 c1 : Nat) (e1 : n1 = x1.length) (hm0 : Mem [] M w0 [.sl (Kd.int .i64) A0_0 c0_0 x0.Shape, .sl Kd.float A0_1 c0_1 x0.Data, .sl (Kd.int .i64) A1 c1 x1] w0) (r : (Tensor × Int)) (H0 : ref1_Reshape.f x0 x1 = some r) :
    Calls Try.prog 21 [.agg #[.slice A0_0 n0_0 c0_0, .slice A0_1 n0_1 c0_1], .slice A1 n1 c1].toArray w0 (fun x w' => ∃ v, x = .returned v ∧ ∃ Ar0_0 cr0_0 Ar0_1 cr0_1, v = .tuple #[.agg #[.slice Ar0_0 r.1.Shape.length cr0_0, .slice Ar0_1 r.1.Data.length cr0_1], .int .i64 r.2] ∧ Mem [] M w0 [.ow (Kd.int .i64) 3 Ar0_0 cr0_0 r.1.Shape, .ow Kd.float 26 Ar0_1 cr0_1 r.1.Data] w') := by
  subst e0_0
  subst e0_1
  subst e1
  unfold ref1_Reshape.f at H0
  refine enter (n := 33) Try.func21 rfl rfl (by kernel_rfl) fun a0 (hf0 : Fr 33 a0 [(0, .agg #[.slice A0_0 x0.Shape.length c0_0, .slice A0_1 x0.Data.length c0_1]), (1, .slice A1 x1.length c1)]) => ?_
  refine wp_seq ?_
  refine inReg ?_
  refine listOf hf0 rfl (by kernel_rfl) (aNew (cs := [.slice A0_0 x0.Shape.length c0_0, .slice A0_1 x0.Data.length c0_1]) (T := 25) (d := 2) hf0 (by kernel_rfl) (by kernel_rfl) ?_)
  intro b21 w22 a23 hbb21 hx25 hg26 hf24
  have hm27 := hm0.box hbb21 hx25 hg26
  refine listOf hf24 rfl (by kernel_rfl) (aNew (cs := [.slice none 0 0, .slice none 0 0]) (T := 25) (d := 4) hf24 (by kernel_rfl) (by kernel_rfl) ?_)
  intro b28 w29 a30 hbb28 hx32 hg33 hf31
  have hm34 := hm27.box hbb28 hx32 hg33
  refine go 1 [] [1, 2, 4] [(1, .slice A1 x1.length c1), (2, .pointer (some ⟨b21, 0, none⟩)), (4, .pointer (some ⟨b28, 0, none⟩))] [] hf31 (by kernel_rfl) trivial fun a35 hf36 => ?_
  refine endL rfl ?_
  refine thenN ?_
  refine wp_seq ?_
  refine wp_seq ?_
  obtain ⟨r37, hr37, H0⟩ := ob_split H0
  rcases ifb_split H0 with ⟨c38, H0⟩ | ⟨c38, H0⟩
  rotate_left
  · refine inReg ?_
    refine go 1 [.agg #[.slice A0_0 x0.Shape.length c0_0, .slice A0_1 x0.Data.length c0_1]] [1, 2, 4, 8] [(1, .slice A1 x1.length c1), (2, .pointer (some ⟨b21, 0, none⟩)), (4, .pointer (some ⟨b28, 0, none⟩)), (8, .agg #[.slice A0_0 x0.Shape.length c0_0, .slice A0_1 x0.Data.length c0_1])] [.cell ⟨b21, 0, none⟩ (.slice A0_0 x0.Shape.length c0_0), .cell ⟨b21, 1, none⟩ (.slice A0_1 x0.Data.length c0_1)] hf36 (by kernel_rfl) ⟨(hm34.cell 1 rfl rfl), (hm34.cell 1 rfl rfl), trivial⟩ fun a275 hf276 => ?_
    refine listOf hf276 rfl (by kernel_rfl) (aCall (fid := 8) (args := [.agg #[.slice A0_0 x0.Shape.length c0_0, .slice A0_1 x0.Data.length c0_1]]) (d := 9) hf276 (by kernel_rfl) (by kernel_rfl) callable8 (ref1_TensorMay.calls _ _ x0 A0_0 x0.Shape.length c0_0 rfl A0_1 x0.Data.length c0_1 rfl (hm34.give [2, 3] [.sl (Kd.int .i64) A0_0 c0_0 x0.Shape, .sl Kd.float A0_1 c0_1 x0.Data] rfl rfl) r37 hr37) ?_)
    rintro _ w277 a278 ⟨rfl, hk280⟩ hf279
    have hm281 := hm34.still hk280.cum.none
    rw [c38] at hf279
    refine go 1 [] [1, 2, 4, 10] [(1, .slice A1 x1.length c1), (2, .pointer (some ⟨b21, 0, none⟩)), (4, .pointer (some ⟨b28, 0, none⟩)), (10, .bool true)] [] hf279 (by kernel_rfl) trivial fun a282 hf283 => ?_
    refine endL rfl ?_
    refine thenN ?_
    refine condT hf283 (by kernel_rfl) ?_
    refine wp_seq ?_
    refine inReg ?_
    refine go 1 [] [4, 11] [(4, .pointer (some ⟨b28, 0, none⟩)), (11, .agg #[.slice none 0 0, .slice none 0 0])] [] hf283 (by kernel_rfl) trivial fun a284 hf285 => ?_
    refine listOf hf285 rfl (by kernel_rfl) (aStoreB (b := b28) (j := 0) (T := 25) (cs := [.slice none 0 0, .slice none 0 0]) (us := [.slice none 0 0, .slice none 0 0]) (cs' := [.slice none 0 0, .slice none 0 0]) hf285 (by kernel_rfl) (hm281.bxAt 0 rfl) (by kernel_rfl) (by kernel_rfl) (by kernel_rfl) ?_)
    intro w286 hx287 hg288
    have hm289 := hm281.setBox 0 _ rfl rfl hx287 hg288
    refine go 1 [] [4, 5] [(4, .pointer (some ⟨b28, 0, none⟩)), (5, .int .i64 2)] [] hf285 (by kernel_rfl) trivial fun a290 hf291 => ?_
    refine endL rfl ?_
    have hm292 := hm289.sel [0] _ rfl (by kernel_rfl)
    refine thenN ?_
    refine wp_ret ?_
    refine thenR ?_
    have hm293 := hm292.nilOw (Kd.int .i64) 3
    have hm294 := hm293.nilOw Kd.float 26
    have hm295 : Mem [] M w0 [.ow (Kd.int .i64) 3 none 0 ([] : (List Int)), .ow Kd.float 26 none 0 ([] : (List Nat))] w286 := hm294.sel [1, 0] _ rfl (by kernel_rfl)
    obtain rfl := Option.some.inj H0
    refine ret [.agg #[.slice none 0 0, .slice none 0 0]] [.agg #[.slice none 0 0, .slice none 0 0], .int .i64 2] [.cell ⟨b28, 0, none⟩ (.slice none 0 0), .cell ⟨b28, 1, none⟩ (.slice none 0 0)] hf291 (by kernel_rfl) ⟨(hm292.cell 0 rfl rfl), (hm292.cell 0 rfl rfl), trivial⟩ ?_
    exact ⟨_, rfl, none, 0, none, 0, rfl, hm295⟩
  refine inReg ?_
  refine go 1 [.agg #[.slice A0_0 x0.Shape.length c0_0, .slice A0_1 x0.Data.length c0_1]] [1, 2, 4, 8] [(1, .slice A1 x1.length c1), (2, .pointer (some ⟨b21, 0, none⟩)), (4, .pointer (some ⟨b28, 0, none⟩)), (8, .agg #[.slice A0_0 x0.Shape.length c0_0, .slice A0_1 x0.Data.length c0_1])] [.cell ⟨b21, 0, none⟩ (.slice A0_0 x0.Shape.length c0_0), .cell ⟨b21, 1, none⟩ (.slice A0_1 x0.Data.length c0_1)] hf36 (by kernel_rfl) ⟨(hm34.cell 1 rfl rfl), (hm34.cell 1 rfl rfl), trivial⟩ fun a39 hf40 => ?_
  refine listOf hf40 rfl (by kernel_rfl) (aCall (fid := 8) (args := [.agg #[.slice A0_0 x0.Shape.length c0_0, .slice A0_1 x0.Data.length c0_1]]) (d := 9) hf40 (by kernel_rfl) (by kernel_rfl) callable8 (ref1_TensorMay.calls _ _ x0 A0_0 x0.Shape.length c0_0 rfl A0_1 x0.Data.length c0_1 rfl (hm34.give [2, 3] [.sl (Kd.int .i64) A0_0 c0_0 x0.Shape, .sl Kd.float A0_1 c0_1 x0.Data] rfl rfl) r37 hr37) ?_)
  rintro _ w41 a42 ⟨rfl, hk44⟩ hf43
  have hm45 := hm34.still hk44.cum.none
  rw [c38] at hf43
  refine go 1 [] [1, 2, 4, 10] [(1, .slice A1 x1.length c1), (2, .pointer (some ⟨b21, 0, none⟩)), (4, .pointer (some ⟨b28, 0, none⟩)), (10, .bool false)] [] hf43 (by kernel_rfl) trivial fun a46 hf47 => ?_
  refine endL rfl ?_
  refine thenN ?_
  refine condF hf47 (by kernel_rfl) ?_
  refine wp_skip ?_
  refine thenN ?_
  refine wp_seq ?_
  obtain ⟨r48, hr48, H0⟩ := ob_split H0
  refine inReg ?_
  refine go 1 [] [1, 2, 4, 13] [(1, .slice A1 x1.length c1), (2, .pointer (some ⟨b21, 0, none⟩)), (4, .pointer (some ⟨b28, 0, none⟩)), (13, .slice A1 x1.length c1)] [] hf47 (by kernel_rfl) trivial fun a49 hf50 => ?_
  refine listOf hf50 rfl (by kernel_rfl) (aCall (fid := 15) (args := [.slice A1 x1.length c1]) (d := 14) hf50 (by kernel_rfl) (by kernel_rfl) callable15 (ref1_Size.calls _ _ x1 A1 x1.length c1 rfl (hm45.give [4] [.sl (Kd.int .i64) A1 c1 x1] rfl rfl) r48 hr48) ?_)
  rintro _ w51 a52 ⟨rfl, hk54⟩ hf53
  have hm55 := hm45.still hk54.cum.none
  refine go 5 [] [1, 2, 4, 6, 7] [(1, .slice A1 x1.length c1), (2, .pointer (some ⟨b21, 0, none⟩)), (4, .pointer (some ⟨b28, 0, none⟩)), (6, .int .i64 r48.1), (7, .int .i64 r48.2)] [] hf53 (by kernel_rfl) trivial fun a56 hf57 => ?_
  refine endL rfl ?_
  refine thenN ?_
  refine wp_seq ?_
  refine wp_seq ?_
  rcases if_split H0 with ⟨c58, H0⟩ | ⟨c58, H0⟩
  rotate_left
  · refine reg [.bool true] [1, 2, 4, 6, 7, 18] [(1, .slice A1 x1.length c1), (2, .pointer (some ⟨b21, 0, none⟩)), (4, .pointer (some ⟨b28, 0, none⟩)), (6, .int .i64 r48.1), (7, .int .i64 r48.2), (18, .bool true)] [.is (((r48.2 : Int) != 0) = true)] hf57 (by kernel_rfl) ⟨(neT c58), trivial⟩ fun a260 hf261 => ?_
    refine thenN ?_
    refine condT hf261 (by kernel_rfl) ?_
    refine wp_seq ?_
    refine inReg ?_
    refine go 2 [] [4, 19, 20] [(4, .pointer (some ⟨b28, 0, none⟩)), (19, .agg #[.slice none 0 0, .slice none 0 0]), (20, .int .i64 r48.2)] [] hf261 (by kernel_rfl) trivial fun a262 hf263 => ?_
    refine listOf hf263 rfl (by kernel_rfl) (aStoreB (b := b28) (j := 0) (T := 25) (cs := [.slice none 0 0, .slice none 0 0]) (us := [.slice none 0 0, .slice none 0 0]) (cs' := [.slice none 0 0, .slice none 0 0]) hf263 (by kernel_rfl) (hm55.bxAt 0 rfl) (by kernel_rfl) (by kernel_rfl) (by kernel_rfl) ?_)
    intro w264 hx265 hg266
    have hm267 := hm55.setBox 0 _ rfl rfl hx265 hg266
    refine go 1 [] [4, 5] [(4, .pointer (some ⟨b28, 0, none⟩)), (5, .int .i64 r48.2)] [] hf263 (by kernel_rfl) trivial fun a268 hf269 => ?_
    refine endL rfl ?_
    have hm270 := hm267.sel [0] _ rfl (by kernel_rfl)
    refine thenN ?_
    refine wp_ret ?_
    refine thenR ?_
    have hm271 := hm270.nilOw (Kd.int .i64) 3
    have hm272 := hm271.nilOw Kd.float 26
    have hm273 : Mem [] M w0 [.ow (Kd.int .i64) 3 none 0 ([] : (List Int)), .ow Kd.float 26 none 0 ([] : (List Nat))] w264 := hm272.sel [1, 0] _ rfl (by kernel_rfl)
    obtain rfl := Option.some.inj H0
    refine ret [.agg #[.slice none 0 0, .slice none 0 0]] [.agg #[.slice none 0 0, .slice none 0 0], .int .i64 r48.2] [.cell ⟨b28, 0, none⟩ (.slice none 0 0), .cell ⟨b28, 1, none⟩ (.slice none 0 0)] hf269 (by kernel_rfl) ⟨(hm270.cell 0 rfl rfl), (hm270.cell 0 rfl rfl), trivial⟩ ?_
    exact ⟨_, rfl, none, 0, none, 0, rfl, hm273⟩
  refine reg [.bool false] [1, 2, 4, 6, 7, 18] [(1, .slice A1 x1.length c1), (2, .pointer (some ⟨b21, 0, none⟩)), (4, .pointer (some ⟨b28, 0, none⟩)), (6, .int .i64 r48.1), (7, .int .i64 r48.2), (18, .bool false)] [.is (((r48.2 : Int) != 0) = false)] hf57 (by kernel_rfl) ⟨(neF c58), trivial⟩ fun a59 hf60 => ?_
  refine thenN ?_
  refine condF hf60 (by kernel_rfl) ?_
  refine wp_skip ?_
  refine thenN ?_
  refine wp_seq ?_
  refine wp_seq ?_
  rcases if_split H0 with ⟨c61, H0⟩ | ⟨c61, H0⟩
  rotate_left
  · refine reg [.slice A0_1 x0.Data.length c0_1, .bool true] [1, 2, 4, 25] [(1, .slice A1 x1.length c1), (2, .pointer (some ⟨b21, 0, none⟩)), (4, .pointer (some ⟨b28, 0, none⟩)), (25, .bool true)] [.cell ⟨b21, 1, none⟩ (.slice A0_1 x0.Data.length c0_1), .is (((r48.1 : Int) != (x0.Data.length : Int)) = true)] hf60 (by kernel_rfl) ⟨(hm55.cell 1 rfl rfl), (neT c61), trivial⟩ fun a245 hf246 => ?_
    refine thenN ?_
    refine condT hf246 (by kernel_rfl) ?_
    refine wp_seq ?_
    refine inReg ?_
    refine go 1 [] [4, 26] [(4, .pointer (some ⟨b28, 0, none⟩)), (26, .agg #[.slice none 0 0, .slice none 0 0])] [] hf246 (by kernel_rfl) trivial fun a247 hf248 => ?_
    refine listOf hf248 rfl (by kernel_rfl) (aStoreB (b := b28) (j := 0) (T := 25) (cs := [.slice none 0 0, .slice none 0 0]) (us := [.slice none 0 0, .slice none 0 0]) (cs' := [.slice none 0 0, .slice none 0 0]) hf248 (by kernel_rfl) (hm55.bxAt 0 rfl) (by kernel_rfl) (by kernel_rfl) (by kernel_rfl) ?_)
    intro w249 hx250 hg251
    have hm252 := hm55.setBox 0 _ rfl rfl hx250 hg251
    refine go 1 [] [4, 5] [(4, .pointer (some ⟨b28, 0, none⟩)), (5, .int .i64 3)] [] hf248 (by kernel_rfl) trivial fun a253 hf254 => ?_
    refine endL rfl ?_
    have hm255 := hm252.sel [0] _ rfl (by kernel_rfl)
    refine thenN ?_
    refine wp_ret ?_
    refine thenR ?_
    have hm256 := hm255.nilOw (Kd.int .i64) 3
    have hm257 := hm256.nilOw Kd.float 26
    have hm258 : Mem [] M w0 [.ow (Kd.int .i64) 3 none 0 ([] : (List Int)), .ow Kd.float 26 none 0 ([] : (List Nat))] w249 := hm257.sel [1, 0] _ rfl (by kernel_rfl)
    obtain rfl := Option.some.inj H0
    refine ret [.agg #[.slice none 0 0, .slice none 0 0]] [.agg #[.slice none 0 0, .slice none 0 0], .int .i64 3] [.cell ⟨b28, 0, none⟩ (.slice none 0 0), .cell ⟨b28, 1, none⟩ (.slice none 0 0)] hf254 (by kernel_rfl) ⟨(hm255.cell 0 rfl rfl), (hm255.cell 0 rfl rfl), trivial⟩ ?_
    exact ⟨_, rfl, none, 0, none, 0, rfl, hm258⟩
  refine reg [.slice A0_1 x0.Data.length c0_1, .bool false] [1, 2, 4, 25] [(1, .slice A1 x1.length c1), (2, .pointer (some ⟨b21, 0, none⟩)), (4, .pointer (some ⟨b28, 0, none⟩)), (25, .bool false)] [.cell ⟨b21, 1, none⟩ (.slice A0_1 x0.Data.length c0_1), .is (((r48.1 : Int) != (x0.Data.length : Int)) = false)] hf60 (by kernel_rfl) ⟨(hm55.cell 1 rfl rfl), (neF c61), trivial⟩ fun a62 hf63 => ?_
  refine thenN ?_
  refine condF hf63 (by kernel_rfl) ?_
  refine wp_skip ?_
  refine thenN ?_
  refine wp_seq ?_
  obtain ⟨g65, H0⟩ := if_guard H0
  obtain ⟨g66, H0⟩ := if_guard H0
  refine midReg (fun (a : Act) (w : World) => ∃ (A80 : Option Addr) (c81 : Nat) (A68 : Option Addr) (c69 : Nat), Fr 33 a [(4, .pointer (some ⟨b28, 0, none⟩)), (5, .int .i64 0)] ∧ Mem [] M w0 [.ow Kd.float 26 A80 c81 (([] : (List Nat)) ++ x0.Data), .ow (Kd.int .i64) 3 A68 c69 (([] : (List Int)) ++ x1), .bx b28 [.slice A68 ((([] : (List Int)) ++ x1).length) c69, .slice A80 ((([] : (List Nat)) ++ x0.Data).length) c81] 25] w) ?_ ?_
  · refine anyG [1, 4, 6] (by kernel_rfl) fun w96 hg97 => ?_
    have hm98 := hm55.still hg97
    refine quiet0 [0, 2] [] [4, 27, 29] #[true, false, true, false, false, false, false, false] [(4, .pointer (some ⟨b28, 0, none⟩)), (27, .slice A1 x1.length c1), (29, .pointer (some ⟨b21, 1, none⟩))] [] 6 rfl (by kernel_rfl) (fun _ _ _ _ _ h => nomatch h.1) hf63 (by kernel_rfl) trivial fun a169 hf170 => ?_
    refine all2 1 3 (by kernel_rfl) ?_ ?_
    · have hm171 := hm98.nilOw (Kd.int .i64) 3
      have e180 : 0 = ([] : (List Int)).length := rfl
      have e181 : x1.length = x1.length := rfl
      refine opOf hf170 rfl (by kernel_rfl) (aApp (kd := (Kd.int .i64)) (base := 0) (E := 3) (A := none) (B := A1) (c := 0) (c2 := c1) (xs := ([] : (List Int))) (ys := x1) (k := 0) (m := x1.length) (sz := 1) (d := 28) hf170 (by kernel_rfl) e180 e181 (by kernel_rfl) rfl (by kernel_rfl) (hm171.at 0 rfl) (hm171.at2 0 5 rfl rfl).2 (hm171.cpAt 5 rfl) (Nat.zero_le _) (by have := g65; omega) ?_)
      intro A172 c173 w174 a175 ho177 hg178 hr179 hf176
      refine ⟨.inl (by decide), ?_⟩
      have hm182 := hm171.setOwn 0 _ rfl rfl ho177 hg178 hr179
      refine all1 3 (by kernel_rfl) ?_
      refine opOf hf176 rfl (by kernel_rfl) (aOne [.slice A0_1 x0.Data.length c0_1] (.slice A0_1 x0.Data.length c0_1) [.cell ⟨b21, 1, none⟩ (.slice A0_1 x0.Data.length c0_1)] 30 hf176 (by kernel_rfl) rfl (by kernel_rfl) ⟨(hm182.cell 2 rfl rfl), trivial⟩ fun a183 hf184 => ?_)
      refine ⟨.inr (Gr.refl _ _), ?_⟩
      refine all1 4 (by kernel_rfl) ?_
      have hm185 := hm182.nilOw Kd.float 26
      have e194 : 0 = ([] : (List Nat)).length := rfl
      have e195 : x0.Data.length = x0.Data.length := rfl
      refine opOf hf184 rfl (by kernel_rfl) (aApp (kd := Kd.float) (base := 0) (E := 26) (A := none) (B := A0_1) (c := 0) (c2 := c0_1) (xs := ([] : (List Nat))) (ys := x0.Data) (k := 0) (m := x0.Data.length) (sz := 1) (d := 31) hf184 (by kernel_rfl) e194 e195 (by kernel_rfl) rfl (by kernel_rfl) (hm185.at 0 rfl) (hm185.at2 0 5 rfl rfl).2 (hm185.cpAt 5 rfl) (Nat.zero_le _) (by have := g66; omega) ?_)
      intro A186 c187 w188 a189 ho191 hg192 hr193 hf190
      refine ⟨.inl (by decide), ?_⟩
      have hm196 := hm185.setOwn 0 _ rfl rfl ho191 hg192 hr193
      refine quiet0 [5] [] [4, 32] #[true, true, true, true, true, true, false, false] [(4, .pointer (some ⟨b28, 0, none⟩)), (32, .agg #[.slice A172 ((([] : (List Int)) ++ x1).length) c173, .slice A186 ((([] : (List Nat)) ++ x0.Data).length) c187])] [] 2 rfl (by kernel_rfl) (fun _ _ _ _ _ h => nomatch h.1) hf190 (by kernel_rfl) trivial fun a197 hf198 => ?_
      refine all1 6 (by kernel_rfl) ?_
      refine opOf hf198 rfl (by kernel_rfl) (aStoreB (b := b28) (j := 0) (T := 25) (cs := [.slice none 0 0, .slice none 0 0]) (us := [.slice A172 ((([] : (List Int)) ++ x1).length) c173, .slice A186 ((([] : (List Nat)) ++ x0.Data).length) c187]) (cs' := [.slice A172 ((([] : (List Int)) ++ x1).length) c173, .slice A186 ((([] : (List Nat)) ++ x0.Data).length) c187]) hf198 (by kernel_rfl) (hm196.bxAt 2 rfl) (by kernel_rfl) (by kernel_rfl) (by kernel_rfl) ?_)
      intro w199 hx200 hg201
      refine ⟨.inl (by decide), ?_⟩
      have hm202 := hm196.setBox 2 _ rfl rfl hx200 hg201
      refine quiet0 [7] [] [4, 5] #[true, true, true, true, true, true, true, true] [(4, .pointer (some ⟨b28, 0, none⟩)), (5, .int .i64 0)] [] 0 rfl (by kernel_rfl) (fun _ _ _ _ _ h => nomatch h.1) hf198 (by kernel_rfl) trivial fun a203 hf204 => ?_
      refine allDone (by kernel_rfl) ⟨rfl, A186, c187, A172, c173, hf204.sel (l := [4, 5]) (by kernel_rfl), hm202.sel [0, 1, 2] _ rfl (by kernel_rfl)⟩
    · refine opOf hf170 rfl (by kernel_rfl) (aOne [.slice A0_1 x0.Data.length c0_1] (.slice A0_1 x0.Data.length c0_1) [.cell ⟨b21, 1, none⟩ (.slice A0_1 x0.Data.length c0_1)] 30 hf170 (by kernel_rfl) rfl (by kernel_rfl) ⟨(hm98.cell 1 rfl rfl), trivial⟩ fun a205 hf206 => ?_)
      refine ⟨.inr (Gr.refl _ _), ?_⟩
      refine all1 1 (by kernel_rfl) ?_
      have hm207 := hm98.nilOw (Kd.int .i64) 3
      have e216 : 0 = ([] : (List Int)).length := rfl
      have e217 : x1.length = x1.length := rfl
      refine opOf hf206 rfl (by kernel_rfl) (aApp (kd := (Kd.int .i64)) (base := 0) (E := 3) (A := none) (B := A1) (c := 0) (c2 := c1) (xs := ([] : (List Int))) (ys := x1) (k := 0) (m := x1.length) (sz := 1) (d := 28) hf206 (by kernel_rfl) e216 e217 (by kernel_rfl) rfl (by kernel_rfl) (hm207.at 0 rfl) (hm207.at2 0 5 rfl rfl).2 (hm207.cpAt 5 rfl) (Nat.zero_le _) (by have := g65; omega) ?_)
      intro A208 c209 w210 a211 ho213 hg214 hr215 hf212
      refine ⟨.inl (by decide), ?_⟩
      have hm218 := hm207.setOwn 0 _ rfl rfl ho213 hg214 hr215
      refine all1 4 (by kernel_rfl) ?_
      have hm219 := hm218.nilOw Kd.float 26
      have e228 : 0 = ([] : (List Nat)).length := rfl
      have e229 : x0.Data.length = x0.Data.length := rfl
      refine opOf hf212 rfl (by kernel_rfl) (aApp (kd := Kd.float) (base := 0) (E := 26) (A := none) (B := A0_1) (c := 0) (c2 := c0_1) (xs := ([] : (List Nat))) (ys := x0.Data) (k := 0) (m := x0.Data.length) (sz := 1) (d := 31) hf212 (by kernel_rfl) e228 e229 (by kernel_rfl) rfl (by kernel_rfl) (hm219.at 0 rfl) (hm219.at2 0 5 rfl rfl).2 (hm219.cpAt 5 rfl) (Nat.zero_le _) (by have := g66; omega) ?_)
      intro A220 c221 w222 a223 ho225 hg226 hr227 hf224
      refine ⟨.inl (by decide), ?_⟩
      have hm230 := hm219.setOwn 0 _ rfl rfl ho225 hg226 hr227
      refine quiet0 [5] [] [4, 32] #[true, true, true, true, true, true, false, false] [(4, .pointer (some ⟨b28, 0, none⟩)), (32, .agg #[.slice A208 ((([] : (List Int)) ++ x1).length) c209, .slice A220 ((([] : (List Nat)) ++ x0.Data).length) c221])] [] 2 rfl (by kernel_rfl) (fun _ _ _ _ _ h => nomatch h.1) hf224 (by kernel_rfl) trivial fun a231 hf232 => ?_
      refine all1 6 (by kernel_rfl) ?_
      refine opOf hf232 rfl (by kernel_rfl) (aStoreB (b := b28) (j := 0) (T := 25) (cs := [.slice none 0 0, .slice none 0 0]) (us := [.slice A208 ((([] : (List Int)) ++ x1).length) c209, .slice A220 ((([] : (List Nat)) ++ x0.Data).length) c221]) (cs' := [.slice A208 ((([] : (List Int)) ++ x1).length) c209, .slice A220 ((([] : (List Nat)) ++ x0.Data).length) c221]) hf232 (by kernel_rfl) (hm230.bxAt 2 rfl) (by kernel_rfl) (by kernel_rfl) (by kernel_rfl) ?_)
      intro w233 hx234 hg235
      refine ⟨.inl (by decide), ?_⟩
      have hm236 := hm230.setBox 2 _ rfl rfl hx234 hg235
      refine quiet0 [7] [] [4, 5] #[true, true, true, true, true, true, true, true] [(4, .pointer (some ⟨b28, 0, none⟩)), (5, .int .i64 0)] [] 0 rfl (by kernel_rfl) (fun _ _ _ _ _ h => nomatch h.1) hf232 (by kernel_rfl) trivial fun a237 hf238 => ?_
      refine allDone (by kernel_rfl) ⟨rfl, A220, c221, A208, c209, hf238.sel (l := [4, 5]) (by kernel_rfl), hm236.sel [0, 1, 2] _ rfl (by kernel_rfl)⟩
  rintro a239 w240 ⟨A80, c81, A68, c69, hf241, hm242⟩
  refine thenN ?_
  refine wp_ret ?_
  have hm243 : Mem [] M w0 [.ow (Kd.int .i64) 3 A68 c69 (([] : (List Int)) ++ x1), .ow Kd.float 26 A80 c81 (([] : (List Nat)) ++ x0.Data)] w240 := hm242.sel [1, 0] _ rfl (by kernel_rfl)
  obtain rfl := Option.some.inj H0
  refine ret [.agg #[.slice A68 ((([] : (List Int)) ++ x1).length) c69, .slice A80 ((([] : (List Nat)) ++ x0.Data).length) c81]] [.agg #[.slice A68 ((([] : (List Int)) ++ x1).length) c69, .slice A80 ((([] : (List Nat)) ++ x0.Data).length) c81], .int .i64 0] [.cell ⟨b28, 0, none⟩ (.slice A68 ((([] : (List Int)) ++ x1).length) c69), .cell ⟨b28, 1, none⟩ (.slice A80 ((([] : (List Nat)) ++ x0.Data).length) c81)] hf241 (by kernel_rfl) ⟨(hm242.cell 2 rfl rfl), (hm242.cell 2 rfl rfl), trivial⟩ ?_
  exact ⟨_, rfl, A68, c69, A80, c81, rfl, hm243⟩
end Go.Proofs.Ytkcgiolledmbnac
