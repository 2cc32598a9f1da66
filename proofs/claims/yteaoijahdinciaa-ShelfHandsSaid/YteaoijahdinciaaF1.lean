/- Printed by gen.py. -/
import Derived.Test.YteaoijahdinciaaK
namespace Go.Proofs.Yteaoijahdinciaa
open Go Go.RowKit
set_option linter.unusedSimpArgs false
set_option linter.unusedVariables false
set_option linter.unnecessarySimpa false
/-! ### slices.Clone[[]int,int] -/
noncomputable def slices_Clone_int.f (x0 : (List Int)) : Option (List Int) :=
  if 0 + x0.length ≤ 549755813888 then (some (([] : List Int) ++ x0))
  else none
set_option maxRecDepth 100000 in
set_option maxHeartbeats 4000000 in
theorem slices_Clone_int.calls (M : List (Option Nat)) (w0 : World) (x0 : (List Int)) (A0 : Option Addr) (n0 c0 : Nat) (e0 : n0 = x0.length) (hm0 : Mem [] M w0 [.sl (Kd.int .i64) A0 c0 x0] w0) (r : (List Int)) (H0 : slices_Clone_int.f x0 = some r) :
    Calls Try.prog 39 [.slice A0 n0 c0].toArray w0 (fun x w' => ∃ v, x = .returned v ∧ ∃ Ar0 cr0, v = .slice Ar0 r.length cr0 ∧ Mem [] M w0 [.ow (Kd.int .i64) 3 Ar0 cr0 r] w') := by
  subst e0
  unfold slices_Clone_int.f at H0
  refine enter (n := 8) Try.func39 rfl rfl (by kernel_rfl) fun a0 (hf0 : Fr 8 a0 [(0, .slice A0 x0.length c0)]) => ?_
  refine wp_seq ?_
  refine rg [] [(0, .slice A0 x0.length c0)] hf0 ot fun a21 hf22 => ?_
  refine thenN ?_
  refine wp_seq ?_
  refine wp_seq ?_
  rcases A0 with _ | p23
  · obtain rfl := Sl.none (hm0.slAt 0 rfl)
    refine rg [] [(0, .slice none ([] : (List Int)).length c0), (4, .bool true)] hf22 ot fun a24 hf25 => ?_
    refine thenN ?_
    refine cT hf25 ?_
    refine wp_seq ?_
    refine rg [] [(2, .slice none 0 0)] hf25 ot fun a26 hf27 => ?_
    have hm28 := hm0.se [] _ rfl
    refine thenN ?_
    refine wp_ret ?_
    refine thenR ?_
    have hm29 := hm28.nilOw (Kd.int .i64) 3
    have hm30 : Mem [] M w0 [.ow (Kd.int .i64) 3 none 0 ([] : (List Int))] w0 := hm29.se [0] _ rfl
    replace H0 : some ([] : (List Int)) = some r := by rw [← H0]; simp
    obtain rfl := Option.some.inj H0
    refine rt [] [.slice none 0 0] hf27 ot ?_
    exact ⟨_, rfl, none, 0, rfl, hm30⟩
  · refine rg [] [(0, .slice (some p23) x0.length c0), (4, .bool false)] hf22 ot fun a32 hf33 => ?_
    refine thenN ?_
    refine cF hf33 ?_
    refine wp_skip ?_
    refine thenN ?_
    refine wp_seq ?_
    obtain ⟨g34, H0⟩ := if_guard H0
    refine inReg ?_
    refine lo hf33 rfl (li (cs := []) (E := 3) (len := 0) (d := 5) hf33 ?_)
    intro b35 w36 a37 hbb35 hx39 hg40 hf38
    have hm41 : Mem [] M w0 [.ow (Kd.int .i64) 3 (some ⟨b35, 0, none⟩) 0 ([] : List Int), .sl (Kd.int .i64) (some p23) c0 x0] w36 := Mem.litOwn (kd := (Kd.int .i64)) (xs := ([] : List Int)) hm0 hbb35 hx39 hg40 (Els.nil) (by simp [maxLen])
    refine gg 1 [] [(5, .slice (some ⟨b35, 0, none⟩) 0 0), (6, .slice (some p23) x0.length c0)] hf38 ot fun a42 hf43 => ?_
    have e52 : 0 = ([] : List Int).length := rfl
    have e53 : x0.length = x0.length := rfl
    refine lo hf43 rfl (ap (sz := 1) (d := 7) hf43 e52 e53 (hm41.at 0 rfl) (hm41.at2 0 1 rfl rfl).2 (hm41.cpAt 1 rfl) (by have := g34; omega) ?_)
    intro A44 c45 w46 a47 ho49 hg50 hr51 hf48
    have hm54 := hm41.setOwn 0 _ rfl rfl ho49 hg50 hr51
    refine gg 1 [] [(2, .slice A44 (([] : List Int) ++ x0).length c45)] hf48 ot fun a55 hf56 => ?_
    refine endL rfl ?_
    have hm57 := hm54.se [0] _ rfl
    refine thenN ?_
    refine wp_ret ?_
    have hm58 : Mem [] M w0 [.ow (Kd.int .i64) 3 A44 c45 (([] : List Int) ++ x0)] w46 := hm57.se [0] _ rfl
    obtain rfl := Option.some.inj H0
    refine rt [] [.slice A44 (([] : List Int) ++ x0).length c45] hf56 ot ?_
    exact ⟨_, rfl, A44, c45, rfl, hm58⟩

/-! ### slices.Clone[[]float64,float64] -/
noncomputable def slices_Clone_float64.f (x0 : (List Nat)) : Option (List Nat) :=
  if 0 + x0.length ≤ 549755813888 then (some (([] : List Nat) ++ x0))
  else none
set_option maxRecDepth 100000 in
set_option maxHeartbeats 4000000 in
theorem slices_Clone_float64.calls (M : List (Option Nat)) (w0 : World) (x0 : (List Nat)) (A0 : Option Addr) (n0 c0 : Nat) (e0 : n0 = x0.length) (hm0 : Mem [] M w0 [.sl Kd.float A0 c0 x0] w0) (r : (List Nat)) (H0 : slices_Clone_float64.f x0 = some r) :
    Calls Try.prog 46 [.slice A0 n0 c0].toArray w0 (fun x w' => ∃ v, x = .returned v ∧ ∃ Ar0 cr0, v = .slice Ar0 r.length cr0 ∧ Mem [] M w0 [.ow Kd.float 26 Ar0 cr0 r] w') := by
  subst e0
  unfold slices_Clone_float64.f at H0
  refine enter (n := 8) Try.func46 rfl rfl (by kernel_rfl) fun a0 (hf0 : Fr 8 a0 [(0, .slice A0 x0.length c0)]) => ?_
  refine wp_seq ?_
  refine rg [] [(0, .slice A0 x0.length c0)] hf0 ot fun a21 hf22 => ?_
  refine thenN ?_
  refine wp_seq ?_
  refine wp_seq ?_
  rcases A0 with _ | p23
  · obtain rfl := Sl.none (hm0.slAt 0 rfl)
    refine rg [] [(0, .slice none ([] : (List Nat)).length c0), (4, .bool true)] hf22 ot fun a24 hf25 => ?_
    refine thenN ?_
    refine cT hf25 ?_
    refine wp_seq ?_
    refine rg [] [(2, .slice none 0 0)] hf25 ot fun a26 hf27 => ?_
    have hm28 := hm0.se [] _ rfl
    refine thenN ?_
    refine wp_ret ?_
    refine thenR ?_
    have hm29 := hm28.nilOw Kd.float 26
    have hm30 : Mem [] M w0 [.ow Kd.float 26 none 0 ([] : (List Nat))] w0 := hm29.se [0] _ rfl
    replace H0 : some ([] : (List Nat)) = some r := by rw [← H0]; simp
    obtain rfl := Option.some.inj H0
    refine rt [] [.slice none 0 0] hf27 ot ?_
    exact ⟨_, rfl, none, 0, rfl, hm30⟩
  · refine rg [] [(0, .slice (some p23) x0.length c0), (4, .bool false)] hf22 ot fun a32 hf33 => ?_
    refine thenN ?_
    refine cF hf33 ?_
    refine wp_skip ?_
    refine thenN ?_
    refine wp_seq ?_
    obtain ⟨g34, H0⟩ := if_guard H0
    refine inReg ?_
    refine lo hf33 rfl (li (cs := []) (E := 26) (len := 0) (d := 5) hf33 ?_)
    intro b35 w36 a37 hbb35 hx39 hg40 hf38
    have hm41 : Mem [] M w0 [.ow Kd.float 26 (some ⟨b35, 0, none⟩) 0 ([] : List Nat), .sl Kd.float (some p23) c0 x0] w36 := Mem.litOwn (kd := Kd.float) (xs := ([] : List Nat)) hm0 hbb35 hx39 hg40 (Els.nil) (by simp [maxLen])
    refine gg 1 [] [(5, .slice (some ⟨b35, 0, none⟩) 0 0), (6, .slice (some p23) x0.length c0)] hf38 ot fun a42 hf43 => ?_
    have e52 : 0 = ([] : List Nat).length := rfl
    have e53 : x0.length = x0.length := rfl
    refine lo hf43 rfl (ap (sz := 1) (d := 7) hf43 e52 e53 (hm41.at 0 rfl) (hm41.at2 0 1 rfl rfl).2 (hm41.cpAt 1 rfl) (by have := g34; omega) ?_)
    intro A44 c45 w46 a47 ho49 hg50 hr51 hf48
    have hm54 := hm41.setOwn 0 _ rfl rfl ho49 hg50 hr51
    refine gg 1 [] [(2, .slice A44 (([] : List Nat) ++ x0).length c45)] hf48 ot fun a55 hf56 => ?_
    refine endL rfl ?_
    have hm57 := hm54.se [0] _ rfl
    refine thenN ?_
    refine wp_ret ?_
    have hm58 : Mem [] M w0 [.ow Kd.float 26 A44 c45 (([] : List Nat) ++ x0)] w46 := hm57.se [0] _ rfl
    obtain rfl := Option.some.inj H0
    refine rt [] [.slice A44 (([] : List Nat) ++ x0).length c45] hf56 ot ?_
    exact ⟨_, rfl, A44, c45, rfl, hm58⟩

/-! ### backstitch/tensor.Copy -/
noncomputable def tensor_Copy.f (x0 : Tensor) : Option Tensor :=
  (slices_Clone_int.f x0.Shape).bind fun r35 =>
  (slices_Clone_float64.f x0.Data).bind fun r36 =>
  some (⟨r35, r36⟩ : Tensor)
set_option maxRecDepth 100000 in
set_option maxHeartbeats 4000000 in
theorem tensor_Copy.calls (M : List (Option Nat)) (w0 : World) (x0 : Tensor) (A0_0 : Option Addr) (n0_0 c0_0 : Nat) (e0_0 : n0_0 = x0.Shape.length) (A0_1 : Option Addr) (n0_1 c0_1 : Nat) (e0_1 : n0_1 = x0.Data.length) (hm0 : Mem [] M w0 [.sl (Kd.int .i64) A0_0 c0_0 x0.Shape, .sl Kd.float A0_1 c0_1 x0.Data] w0) (r : Tensor) (H0 : tensor_Copy.f x0 = some r) :
    Calls Try.prog 33 [.agg #[.slice A0_0 n0_0 c0_0, .slice A0_1 n0_1 c0_1]].toArray w0 (fun x w' => ∃ v, x = .returned v ∧ ∃ Ar0_0 cr0_0 Ar0_1 cr0_1, v = .agg #[.slice Ar0_0 r.Shape.length cr0_0, .slice Ar0_1 r.Data.length cr0_1] ∧ Mem [] M w0 [.ow (Kd.int .i64) 3 Ar0_0 cr0_0 r.Shape, .ow Kd.float 26 Ar0_1 cr0_1 r.Data] w') := by
  subst e0_0
  subst e0_1
  unfold tensor_Copy.f at H0
  refine enter (n := 10) Try.func33 rfl rfl (by kernel_rfl) fun a0 (hf0 : Fr 10 a0 [(0, .agg #[.slice A0_0 x0.Shape.length c0_0, .slice A0_1 x0.Data.length c0_1])]) => ?_
  refine wp_seq ?_
  refine inReg ?_
  refine lo hf0 rfl (nw (cs := [.slice A0_0 x0.Shape.length c0_0, .slice A0_1 x0.Data.length c0_1]) (T := 29) (d := 1) hf0 ?_)
  intro b21 w22 a23 hbb21 hx25 hg26 hf24
  have hm27 := hm0.box hbb21 hx25 hg26
  refine lo hf24 rfl (nw (cs := [.slice none 0 0, .slice none 0 0]) (T := 29) (d := 2) hf24 ?_)
  intro b28 w29 a30 hbb28 hx32 hg33 hf31
  have hm34 := hm27.box hbb28 hx32 hg33
  refine endL rfl ?_
  refine thenN ?_
  refine wp_seq ?_
  obtain ⟨r35, hr35, H0⟩ := ob_split H0
  obtain ⟨r36, hr36, H0⟩ := ob_split H0
  refine midReg (fun (a : Act) (w : World) => ∃ (A44 : Option Addr) (c45 : Nat) (A37 : Option Addr) (c38 : Nat), Fr 10 a [(2, .pointer (some ⟨b28, 0, none⟩))] ∧ Mem [] M w0 [.ow Kd.float 26 A44 c45 r36, .ow (Kd.int .i64) 3 A37 c38 r35, .bx b28 [.slice A37 r35.length c38, .slice A44 r36.length c45] 29] w) ?_ ?_
  · refine anyG (K := []) [7] (by kernel_rfl) fun w56 hg57 => ?_
    have hm58 := hm34.still hg57
    refine qt [0, 1, 3, 4] [.slice A0_0 x0.Shape.length c0_0, .slice A0_1 x0.Data.length c0_1] (fb 8 27) [(2, vp b28), (4, .slice A0_0 x0.Shape.length c0_0), (7, .slice A0_1 x0.Data.length c0_1)] 4 hf31 (oc (hm58.cell (j := 0) 1 rfl rfl) (oc (hm58.cell (j := 1) 1 rfl rfl) ot)) fun a82 hf83 => ?_
    refine a1 2 ?_
    refine oo hf83 rfl (cl 5 hf83 callable39 (slices_Clone_int.calls _ _ _ _ _ _ rfl (hm58.give [2] [.sl (Kd.int .i64) A0_0 c0_0 x0.Shape] rfl rfl) r35 hr35) ?_)
    rintro _ w86 a87 ⟨A84, c85, rfl, hk89⟩ hf88
    refine ⟨.inr (Gr.still hk89.cum.none), ?_⟩
    have hm90 := hm58.back hk89
    refine a1 5 ?_
    refine oo hf88 rfl (cl 8 hf88 callable46 (slices_Clone_float64.calls _ _ _ _ _ _ rfl (hm90.give [4] [.sl Kd.float A0_1 c0_1 x0.Data] rfl rfl) r36 hr36) ?_)
    rintro _ w93 a94 ⟨A91, c92, rfl, hk96⟩ hf95
    refine ⟨.inr (Gr.still hk96.cum.none), ?_⟩
    have hm97 := hm90.back hk96
    refine qt [6] [] (fb 8 127) [(2, vp b28), (9, .agg #[.slice A84 r35.length c85, .slice A91 r36.length c92])] 1 hf95 ot fun a98 hf99 => ?_
    refine a1 7 ?_
    refine oo hf99 rfl (sb (j := 0) (us := [.slice A84 r35.length c85, .slice A91 r36.length c92]) (cs' := [.slice A84 r35.length c85, .slice A91 r36.length c92]) hf99 (hm97.bxAt 2 rfl) ?_)
    intro w100 hx101 hg102
    refine ⟨.inl (by decide), ?_⟩
    have hm103 := hm97.setBox 2 _ rfl rfl hx101 hg102
    refine aD ⟨rfl, A91, c92, A84, c85, hf99.se [2], hm103.se [0, 1, 2] _ rfl⟩
  rintro a104 w105 ⟨A44, c45, A37, c38, hf106, hm107⟩
  refine thenN ?_
  refine wp_ret ?_
  have hm108 : Mem [] M w0 [.ow (Kd.int .i64) 3 A37 c38 r35, .ow Kd.float 26 A44 c45 r36] w105 := hm107.se [1, 0] _ rfl
  obtain rfl := Option.some.inj H0
  refine rt [.agg #[.slice A37 r35.length c38, .slice A44 r36.length c45]] [.agg #[.slice A37 r35.length c38, .slice A44 r36.length c45]] hf106 (oc (hm107.cell (j := 0) 2 rfl rfl) (oc (hm107.cell (j := 1) 2 rfl rfl) ot)) ?_
  exact ⟨_, rfl, A37, c38, A44, c45, rfl, hm108⟩

/-! ### math/bits.Mul64 -/
noncomputable def bits_Mul64.f (x0 : Int) (x1 : Int) : Option (Int × Int) :=
  some ((IntKind.wrap .u64 ((IntKind.wrap .u64 ((IntKind.wrap .u64 ((Int.fdiv x0 (2 ^ 32)) * (Int.fdiv x1 (2 ^ 32)))) + (Int.fdiv (IntKind.wrap .u64 ((IntKind.wrap .u64 ((Int.fdiv x0 (2 ^ 32)) * (bits .and .u64 x1 4294967295))) + (Int.fdiv (IntKind.wrap .u64 ((bits .and .u64 x0 4294967295) * (bits .and .u64 x1 4294967295))) (2 ^ 32)))) (2 ^ 32)))) + (Int.fdiv (IntKind.wrap .u64 ((bits .and .u64 (IntKind.wrap .u64 ((IntKind.wrap .u64 ((Int.fdiv x0 (2 ^ 32)) * (bits .and .u64 x1 4294967295))) + (Int.fdiv (IntKind.wrap .u64 ((bits .and .u64 x0 4294967295) * (bits .and .u64 x1 4294967295))) (2 ^ 32)))) 4294967295) + (IntKind.wrap .u64 ((bits .and .u64 x0 4294967295) * (Int.fdiv x1 (2 ^ 32)))))) (2 ^ 32)))), (IntKind.wrap .u64 (x0 * x1)))
set_option maxRecDepth 100000 in
set_option maxHeartbeats 4000000 in
theorem bits_Mul64.calls (M : List (Option Nat)) (w0 : World) (x0 : Int) (x1 : Int) (hm0 : Mem [] M w0 [] w0) (r : (Int × Int)) (H0 : bits_Mul64.f x0 x1 = some r) :
    Calls Try.prog 74 [.int .u64 x0, .int .u64 x1].toArray w0 (fun x w' => ∃ v, x = .returned v ∧ v = .tuple #[.int .u64 r.1, .int .u64 r.2] ∧ Mem [] M w0 [] w') := by
  unfold bits_Mul64.f at H0
  refine enter (n := 51) Try.func74 rfl rfl (by kernel_rfl) fun a0 (hf0 : Fr 51 a0 [(0, .int .u64 x0), (1, .int .u64 x1)]) => ?_
  refine wp_seq ?_
  refine rg [] [(0, .int .u64 x0), (1, .int .u64 x1)] hf0 ot fun a21 hf22 => ?_
  refine thenN ?_
  refine wp_seq ?_
  refine rg [] [(0, .int .u64 x0), (1, .int .u64 x1), (6, .int .u64 (bits .and .u64 x0 4294967295))] hf22 ot fun a23 hf24 => ?_
  refine thenN ?_
  refine wp_seq ?_
  refine rg [] [(0, .int .u64 x0), (1, .int .u64 x1), (6, .int .u64 (bits .and .u64 x0 4294967295)), (7, .int .u64 (Int.fdiv x0 (2 ^ 32)))] hf24 ot fun a25 hf26 => ?_
  refine thenN ?_
  refine wp_seq ?_
  refine rg [] [(0, .int .u64 x0), (1, .int .u64 x1), (6, .int .u64 (bits .and .u64 x0 4294967295)), (7, .int .u64 (Int.fdiv x0 (2 ^ 32))), (8, .int .u64 (bits .and .u64 x1 4294967295))] hf26 ot fun a27 hf28 => ?_
  refine thenN ?_
  refine wp_seq ?_
  refine rg [] [(0, .int .u64 x0), (1, .int .u64 x1), (6, .int .u64 (bits .and .u64 x0 4294967295)), (7, .int .u64 (Int.fdiv x0 (2 ^ 32))), (8, .int .u64 (bits .and .u64 x1 4294967295)), (9, .int .u64 (Int.fdiv x1 (2 ^ 32)))] hf28 ot fun a29 hf30 => ?_
  refine thenN ?_
  refine wp_seq ?_
  refine rg [] [(0, .int .u64 x0), (1, .int .u64 x1), (6, .int .u64 (bits .and .u64 x0 4294967295)), (7, .int .u64 (Int.fdiv x0 (2 ^ 32))), (8, .int .u64 (bits .and .u64 x1 4294967295)), (9, .int .u64 (Int.fdiv x1 (2 ^ 32))), (10, .int .u64 (IntKind.wrap .u64 ((bits .and .u64 x0 4294967295) * (bits .and .u64 x1 4294967295))))] hf30 ot fun a31 hf32 => ?_
  refine thenN ?_
  refine wp_seq ?_
  refine rg [] [(0, .int .u64 x0), (1, .int .u64 x1), (6, .int .u64 (bits .and .u64 x0 4294967295)), (7, .int .u64 (Int.fdiv x0 (2 ^ 32))), (9, .int .u64 (Int.fdiv x1 (2 ^ 32))), (11, .int .u64 (IntKind.wrap .u64 ((IntKind.wrap .u64 ((Int.fdiv x0 (2 ^ 32)) * (bits .and .u64 x1 4294967295))) + (Int.fdiv (IntKind.wrap .u64 ((bits .and .u64 x0 4294967295) * (bits .and .u64 x1 4294967295))) (2 ^ 32)))))] hf32 ot fun a33 hf34 => ?_
  refine thenN ?_
  refine wp_seq ?_
  refine rg [] [(0, .int .u64 x0), (1, .int .u64 x1), (6, .int .u64 (bits .and .u64 x0 4294967295)), (7, .int .u64 (Int.fdiv x0 (2 ^ 32))), (9, .int .u64 (Int.fdiv x1 (2 ^ 32))), (11, .int .u64 (IntKind.wrap .u64 ((IntKind.wrap .u64 ((Int.fdiv x0 (2 ^ 32)) * (bits .and .u64 x1 4294967295))) + (Int.fdiv (IntKind.wrap .u64 ((bits .and .u64 x0 4294967295) * (bits .and .u64 x1 4294967295))) (2 ^ 32))))), (12, .int .u64 (bits .and .u64 (IntKind.wrap .u64 ((IntKind.wrap .u64 ((Int.fdiv x0 (2 ^ 32)) * (bits .and .u64 x1 4294967295))) + (Int.fdiv (IntKind.wrap .u64 ((bits .and .u64 x0 4294967295) * (bits .and .u64 x1 4294967295))) (2 ^ 32)))) 4294967295))] hf34 ot fun a35 hf36 => ?_
  refine thenN ?_
  refine wp_seq ?_
  refine rg [] [(0, .int .u64 x0), (1, .int .u64 x1), (6, .int .u64 (bits .and .u64 x0 4294967295)), (7, .int .u64 (Int.fdiv x0 (2 ^ 32))), (9, .int .u64 (Int.fdiv x1 (2 ^ 32))), (12, .int .u64 (bits .and .u64 (IntKind.wrap .u64 ((IntKind.wrap .u64 ((Int.fdiv x0 (2 ^ 32)) * (bits .and .u64 x1 4294967295))) + (Int.fdiv (IntKind.wrap .u64 ((bits .and .u64 x0 4294967295) * (bits .and .u64 x1 4294967295))) (2 ^ 32)))) 4294967295)), (13, .int .u64 (Int.fdiv (IntKind.wrap .u64 ((IntKind.wrap .u64 ((Int.fdiv x0 (2 ^ 32)) * (bits .and .u64 x1 4294967295))) + (Int.fdiv (IntKind.wrap .u64 ((bits .and .u64 x0 4294967295) * (bits .and .u64 x1 4294967295))) (2 ^ 32)))) (2 ^ 32)))] hf36 ot fun a37 hf38 => ?_
  refine thenN ?_
  refine wp_seq ?_
  refine rg [] [(0, .int .u64 x0), (1, .int .u64 x1), (7, .int .u64 (Int.fdiv x0 (2 ^ 32))), (9, .int .u64 (Int.fdiv x1 (2 ^ 32))), (12, .int .u64 (IntKind.wrap .u64 ((bits .and .u64 (IntKind.wrap .u64 ((IntKind.wrap .u64 ((Int.fdiv x0 (2 ^ 32)) * (bits .and .u64 x1 4294967295))) + (Int.fdiv (IntKind.wrap .u64 ((bits .and .u64 x0 4294967295) * (bits .and .u64 x1 4294967295))) (2 ^ 32)))) 4294967295) + (IntKind.wrap .u64 ((bits .and .u64 x0 4294967295) * (Int.fdiv x1 (2 ^ 32))))))), (13, .int .u64 (Int.fdiv (IntKind.wrap .u64 ((IntKind.wrap .u64 ((Int.fdiv x0 (2 ^ 32)) * (bits .and .u64 x1 4294967295))) + (Int.fdiv (IntKind.wrap .u64 ((bits .and .u64 x0 4294967295) * (bits .and .u64 x1 4294967295))) (2 ^ 32)))) (2 ^ 32)))] hf38 ot fun a39 hf40 => ?_
  refine thenN ?_
  refine wp_seq ?_
  refine rg [] [(0, .int .u64 x0), (1, .int .u64 x1), (4, .int .u64 (IntKind.wrap .u64 ((IntKind.wrap .u64 ((IntKind.wrap .u64 ((Int.fdiv x0 (2 ^ 32)) * (Int.fdiv x1 (2 ^ 32)))) + (Int.fdiv (IntKind.wrap .u64 ((IntKind.wrap .u64 ((Int.fdiv x0 (2 ^ 32)) * (bits .and .u64 x1 4294967295))) + (Int.fdiv (IntKind.wrap .u64 ((bits .and .u64 x0 4294967295) * (bits .and .u64 x1 4294967295))) (2 ^ 32)))) (2 ^ 32)))) + (Int.fdiv (IntKind.wrap .u64 ((bits .and .u64 (IntKind.wrap .u64 ((IntKind.wrap .u64 ((Int.fdiv x0 (2 ^ 32)) * (bits .and .u64 x1 4294967295))) + (Int.fdiv (IntKind.wrap .u64 ((bits .and .u64 x0 4294967295) * (bits .and .u64 x1 4294967295))) (2 ^ 32)))) 4294967295) + (IntKind.wrap .u64 ((bits .and .u64 x0 4294967295) * (Int.fdiv x1 (2 ^ 32)))))) (2 ^ 32)))))] hf40 ot fun a41 hf42 => ?_
  refine thenN ?_
  refine wp_seq ?_
  refine rg [] [(4, .int .u64 (IntKind.wrap .u64 ((IntKind.wrap .u64 ((IntKind.wrap .u64 ((Int.fdiv x0 (2 ^ 32)) * (Int.fdiv x1 (2 ^ 32)))) + (Int.fdiv (IntKind.wrap .u64 ((IntKind.wrap .u64 ((Int.fdiv x0 (2 ^ 32)) * (bits .and .u64 x1 4294967295))) + (Int.fdiv (IntKind.wrap .u64 ((bits .and .u64 x0 4294967295) * (bits .and .u64 x1 4294967295))) (2 ^ 32)))) (2 ^ 32)))) + (Int.fdiv (IntKind.wrap .u64 ((bits .and .u64 (IntKind.wrap .u64 ((IntKind.wrap .u64 ((Int.fdiv x0 (2 ^ 32)) * (bits .and .u64 x1 4294967295))) + (Int.fdiv (IntKind.wrap .u64 ((bits .and .u64 x0 4294967295) * (bits .and .u64 x1 4294967295))) (2 ^ 32)))) 4294967295) + (IntKind.wrap .u64 ((bits .and .u64 x0 4294967295) * (Int.fdiv x1 (2 ^ 32)))))) (2 ^ 32))))), (5, .int .u64 (IntKind.wrap .u64 (x0 * x1)))] hf42 ot fun a43 hf44 => ?_
  refine thenN ?_
  refine wp_ret ?_
  have hm45 : Mem [] M w0 [] w0 := hm0.se [] _ rfl
  obtain rfl := Option.some.inj H0
  refine rt [] [.int .u64 (IntKind.wrap .u64 ((IntKind.wrap .u64 ((IntKind.wrap .u64 ((Int.fdiv x0 (2 ^ 32)) * (Int.fdiv x1 (2 ^ 32)))) + (Int.fdiv (IntKind.wrap .u64 ((IntKind.wrap .u64 ((Int.fdiv x0 (2 ^ 32)) * (bits .and .u64 x1 4294967295))) + (Int.fdiv (IntKind.wrap .u64 ((bits .and .u64 x0 4294967295) * (bits .and .u64 x1 4294967295))) (2 ^ 32)))) (2 ^ 32)))) + (Int.fdiv (IntKind.wrap .u64 ((bits .and .u64 (IntKind.wrap .u64 ((IntKind.wrap .u64 ((Int.fdiv x0 (2 ^ 32)) * (bits .and .u64 x1 4294967295))) + (Int.fdiv (IntKind.wrap .u64 ((bits .and .u64 x0 4294967295) * (bits .and .u64 x1 4294967295))) (2 ^ 32)))) 4294967295) + (IntKind.wrap .u64 ((bits .and .u64 x0 4294967295) * (Int.fdiv x1 (2 ^ 32)))))) (2 ^ 32)))), .int .u64 (IntKind.wrap .u64 (x0 * x1))] hf44 ot ?_
  exact ⟨_, rfl, rfl, hm45⟩

/-! ### math/bits.Mul -/
noncomputable def bits_Mul.f (x0 : Int) (x1 : Int) : Option (Int × Int) :=
  (bits_Mul64.f x0 x1).bind fun r23 =>
  some (r23.1, r23.2)
set_option maxRecDepth 100000 in
set_option maxHeartbeats 4000000 in
theorem bits_Mul.calls (M : List (Option Nat)) (w0 : World) (x0 : Int) (x1 : Int) (hm0 : Mem [] M w0 [] w0) (r : (Int × Int)) (H0 : bits_Mul.f x0 x1 = some r) :
    Calls Try.prog 72 [.int .u64 x0, .int .u64 x1].toArray w0 (fun x w' => ∃ v, x = .returned v ∧ v = .tuple #[.int .u64 r.1, .int .u64 r.2] ∧ Mem [] M w0 [] w') := by
  unfold bits_Mul.f at H0
  refine enter (n := 30) Try.func72 rfl rfl (by kernel_rfl) fun a0 (hf0 : Fr 30 a0 [(0, .int .u64 x0), (1, .int .u64 x1)]) => ?_
  refine wp_seq ?_
  refine rg [] [(0, .int .u64 x0), (1, .int .u64 x1)] hf0 ot fun a21 hf22 => ?_
  refine thenN ?_
  refine wp_seq ?_
  refine cF hf22 ?_
  refine wp_skip ?_
  refine thenN ?_
  refine wp_seq ?_
  obtain ⟨r23, hr23, H0⟩ := ob_split H0
  refine inReg ?_
  refine gg 2 [] [(23, .int .u64 x0), (24, .int .u64 x1)] hf22 ot fun a24 hf25 => ?_
  refine lo hf25 rfl (cl 25 hf25 callable74 (bits_Mul64.calls _ _ x0 x1 (hm0.give [] [] rfl rfl) r23 hr23) ?_)
  rintro _ w26 a27 ⟨rfl, hk29⟩ hf28
  have hm30 := hm0.still hk29.cum.none
  refine gg 5 [] [(8, .int .u64 r23.1), (9, .int .u64 r23.2)] hf28 ot fun a31 hf32 => ?_
  refine endL rfl ?_
  refine thenN ?_
  refine wp_seq ?_
  refine rg [] [(4, .int .u64 r23.1), (5, .int .u64 r23.2)] hf32 ot fun a33 hf34 => ?_
  refine thenN ?_
  refine wp_ret ?_
  have hm35 : Mem [] M w0 [] w26 := hm30.se [] _ rfl
  obtain rfl := Option.some.inj H0
  refine rt [] [.int .u64 r23.1, .int .u64 r23.2] hf34 ot ?_
  exact ⟨_, rfl, rfl, hm35⟩

/-! ### slices.Repeat[[]float64,float64] -/
noncomputable def slices_Repeat_float64.l0  (s75 : (Int × (List Nat))) : Step (Int × (List Nat)) (Int × (List Nat)) :=
  if s75.1 < (s75.2.length : Int) then (if 0 ≤ s75.1 ∧ s75.1 ≤ (s75.2.length : Int) then (.next ((w64 (s75.1 + ((List.take (min ((s75.1).toNat - 0) (s75.2.length - (s75.1).toNat)) s75.2).length : Int))), (cpy s75.2 (s75.1).toNat (List.take (min ((s75.1).toNat - 0) (s75.2.length - (s75.1).toNat)) s75.2))))
  else .bad)
  else (.done (s75.1, s75.2))
noncomputable def slices_Repeat_float64.f (x0 : (List Nat)) (x1 : Int) : Option (List Nat) :=
  if x1 < 0 then none
  else ((bits_Mul.f (IntKind.wrap .u64 ((x0.length : Int))) (IntKind.wrap .u64 (x1))).bind fun r28 =>
  if 0 < r28.1 then none
  else (if 9223372036854775807 < r28.2 then none
  else (if 0 ≤ (w64 (r28.2)) ∧ (w64 (r28.2)) ≤ 1099511627776 then ((loop (slices_Repeat_float64.l0) (((List.take ((List.replicate ((w64 (r28.2))).toNat (0 : Nat)).length) x0).length : Int), (cpy (List.replicate ((w64 (r28.2))).toNat (0 : Nat)) 0 (List.take ((List.replicate ((w64 (r28.2))).toNat (0 : Nat)).length) x0)))).bind fun r76 =>
  some r76.2)
  else none)))
set_option maxRecDepth 100000 in
set_option maxHeartbeats 4000000 in
theorem slices_Repeat_float64.calls (M : List (Option Nat)) (w0 : World) (x0 : (List Nat)) (A0 : Option Addr) (n0 c0 : Nat) (e0 : n0 = x0.length) (x1 : Int) (hm0 : Mem [] M w0 [.sl Kd.float A0 c0 x0] w0) (r : (List Nat)) (H0 : slices_Repeat_float64.f x0 x1 = some r) :
    Calls Try.prog 60 [.slice A0 n0 c0, .int .i64 x1].toArray w0 (fun x w' => ∃ v, x = .returned v ∧ ∃ Ar0 cr0, v = .slice Ar0 r.length cr0 ∧ Mem [] M w0 [.ow Kd.float 26 Ar0 cr0 r] w') := by
  subst e0
  unfold slices_Repeat_float64.f at H0
  refine enter (n := 48) Try.func60 rfl rfl (by kernel_rfl) fun a0 (hf0 : Fr 48 a0 [(0, .slice A0 x0.length c0), (1, .int .i64 x1)]) => ?_
  refine wp_seq ?_
  refine rg [] [(0, .slice A0 x0.length c0), (1, vi x1)] hf0 ot fun a21 hf22 => ?_
  refine thenN ?_
  refine wp_seq ?_
  refine wp_seq ?_
  rcases if_split H0 with ⟨c23, H0⟩ | ⟨c23, H0⟩
  · refine rg (ob := [.is (decide (x1 < 0) = true)]) [.bool true] [(0, .slice A0 x0.length c0), (1, vi x1), (10, .bool true)] hf22 ⟨(decide_eq_true c23), trivial⟩ fun a24 hf25 => ?_
    refine thenN ?_
    refine cT hf25 ?_
    exact absurd H0 (by simp [Step.go])
  refine rg (ob := [.is (decide (x1 < 0) = false)]) [.bool false] [(0, .slice A0 x0.length c0), (1, vi x1), (10, .bool false)] hf22 ⟨(decide_eq_false c23), trivial⟩ fun a26 hf27 => ?_
  refine thenN ?_
  refine cF hf27 ?_
  refine wp_skip ?_
  refine thenN ?_
  refine wp_seq ?_
  obtain ⟨r28, hr28, H0⟩ := ob_split H0
  refine inReg ?_
  refine gg 5 [] [(0, .slice A0 x0.length c0), (15, .int .u64 (IntKind.wrap .u64 ((x0.length : Int)))), (17, .int .u64 (IntKind.wrap .u64 (x1)))] hf27 ot fun a29 hf30 => ?_
  refine lo hf30 rfl (cl 18 hf30 callable72 (bits_Mul.calls _ _ (IntKind.wrap .u64 ((x0.length : Int))) (IntKind.wrap .u64 (x1)) (hm0.give [] [] rfl rfl) r28 hr28) ?_)
  rintro _ w31 a32 ⟨rfl, hk34⟩ hf33
  have hm35 := hm0.still hk34.cum.none
  refine gg 5 [] [(0, .slice A0 x0.length c0), (5, .int .u64 r28.1), (6, .int .u64 r28.2)] hf33 ot fun a36 hf37 => ?_
  refine endL rfl ?_
  refine thenN ?_
  refine wp_seq ?_
  refine wp_seq ?_
  rcases if_split H0 with ⟨c38, H0⟩ | ⟨c38, H0⟩
  · refine rg (ob := [.is (decide (0 < r28.1) = true)]) [.bool true] [(0, .slice A0 x0.length c0), (6, .int .u64 r28.2), (26, .bool true)] hf37 ⟨(decide_eq_true c38), trivial⟩ fun a39 hf40 => ?_
    refine thenN ?_
    refine cT hf40 ?_
    exact absurd H0 (by simp [Step.go])
  rcases if_split H0 with ⟨c41, H0⟩ | ⟨c41, H0⟩
  · refine rg (ob := [.is (decide (0 < r28.1) = false), .is (decide (9223372036854775807 < r28.2) = true)]) [.bool false, .bool true] [(0, .slice A0 x0.length c0), (6, .int .u64 r28.2), (26, .bool true)] hf37 ⟨(decide_eq_false c38), (decide_eq_true c41), trivial⟩ fun a42 hf43 => ?_
    refine thenN ?_
    refine cT hf43 ?_
    exact absurd H0 (by simp [Step.go])
  refine rg (ob := [.is (decide (0 < r28.1) = false), .is (decide (9223372036854775807 < r28.2) = false)]) [.bool false, .bool false] [(0, .slice A0 x0.length c0), (6, .int .u64 r28.2), (26, .bool false)] hf37 ⟨(decide_eq_false c38), (decide_eq_false c41), trivial⟩ fun a44 hf45 => ?_
  refine thenN ?_
  refine cF hf45 ?_
  refine wp_skip ?_
  refine thenN ?_
  refine wp_seq ?_
  obtain ⟨g46, H0⟩ := if_guard H0
  refine inReg ?_
  refine gg 2 [] [(0, .slice A0 x0.length c0), (29, vi (w64 (r28.2)))] hf45 ot fun a47 hf48 => ?_
  refine lo hf48 rfl (aMake (kd := Kd.float) (x := 0) (E := 26) (L := (w64 (r28.2))) (z := [.float .f64 0]) (sz := 1) (d := 30) hf48 (by kernel_rfl) (by kernel_rfl) rfl (fun _ _ => ⟨0, rfl, FR.lit (by kernel_rfl) (by kernel_rfl)⟩) g46.1 g46.2 ?_)
  intro A49 c50 w51 a52 ho54 hb56 hg55 hf53
  have hm57 : Mem [] M w0 [.ow Kd.float 26 A49 c50 (List.replicate ((w64 (r28.2))).toNat (0 : Nat)), .sl Kd.float A0 c0 x0] w51 := hm35.own (ho54 _) hg55
  refine gg 1 [] [(0, .slice A0 x0.length c0), (7, .slice A49 ((List.replicate ((w64 (r28.2))).toNat (0 : Nat)).length) c50)] hf53 ot fun a58 hf59 => ?_
  refine endL rfl ?_
  refine thenN ?_
  refine wp_seq ?_
  refine inReg ?_
  refine gg 2 [] [(7, .slice A49 ((List.replicate ((w64 (r28.2))).toNat (0 : Nat)).length) c50), (31, .slice A49 ((List.replicate ((w64 (r28.2))).toNat (0 : Nat)).length) c50), (32, .slice A0 x0.length c0)] hf59 ot fun a60 hf61 => ?_
  refine lo hf61 rfl (aCopy (kd := Kd.float) (base := 0) (E := 26) (A := A49) (B := A0) (D := A49) (c := c50) (lo := 0) (dn := ((List.replicate ((w64 (r28.2))).toNat (0 : Nat)).length)) (dc := c50) (sn := x0.length) (sc := c0) (xs := (List.replicate ((w64 (r28.2))).toNat (0 : Nat))) (ys := (List.take ((List.replicate ((w64 (r28.2))).toNat (0 : Nat)).length) x0)) (d := 33) hf61 (by kernel_rfl) (.inr ⟨rfl, rfl⟩) (by kernel_rfl) rfl (hm57.at 0 rfl) (by rw [Nat.zero_add, show (List.replicate ((w64 (r28.2))).toNat (0 : Nat)).length = (List.replicate ((w64 (r28.2))).toNat (0 : Nat)).length from rfl]; exact Nat.le_refl _) (Src.sl rfl (hm57.at2 0 1 rfl rfl).2 ((List.replicate ((w64 (r28.2))).toNat (0 : Nat)).length)) (by rw [List.length_take, ← (show x0.length = x0.length from rfl)]; show _ = min _ _; omega) ?_)
  intro w62 a63 ho66 hg67 hf65
  have e68 : (cpy (List.replicate ((w64 (r28.2))).toNat (0 : Nat)) 0 (List.take ((List.replicate ((w64 (r28.2))).toNat (0 : Nat)).length) x0)).length = (List.replicate ((w64 (r28.2))).toNat (0 : Nat)).length := cpy_length (by have := Nat.le_refl 0; have := Nat.le_refl 0; simp only [List.length_take]; omega)
  have hf69 : Fr 48 a63 [(7, .slice A49 ((List.replicate ((w64 (r28.2))).toNat (0 : Nat)).length) c50), (31, .slice A49 ((List.replicate ((w64 (r28.2))).toNat (0 : Nat)).length) c50), (32, .slice A0 x0.length c0), (33, .int .i64 ((List.take ((List.replicate ((w64 (r28.2))).toNat (0 : Nat)).length) x0).length : Int))] := hf65.se [7, 31, 32, 33]
  have hf70 : Fr 48 a63 [(7, .slice A49 ((cpy (List.replicate ((w64 (r28.2))).toNat (0 : Nat)) 0 (List.take ((List.replicate ((w64 (r28.2))).toNat (0 : Nat)).length) x0)).length) c50), (31, .slice A49 ((cpy (List.replicate ((w64 (r28.2))).toNat (0 : Nat)) 0 (List.take ((List.replicate ((w64 (r28.2))).toNat (0 : Nat)).length) x0)).length) c50), (32, .slice A0 x0.length c0), (33, .int .i64 ((List.take ((List.replicate ((w64 (r28.2))).toNat (0 : Nat)).length) x0).length : Int))] := by simpa only [e68] using hf69
  have hm71 := hm57.setOwn 0 _ rfl rfl ho66 hg67 (.inl rfl)
  refine gg 1 [] [(7, .slice A49 ((cpy (List.replicate ((w64 (r28.2))).toNat (0 : Nat)) 0 (List.take ((List.replicate ((w64 (r28.2))).toNat (0 : Nat)).length) x0)).length) c50), (8, vi ((List.take ((List.replicate ((w64 (r28.2))).toNat (0 : Nat)).length) x0).length : Int))] hf70 ot fun a72 hf73 => ?_
  refine endL rfl ?_
  have hm74 := hm71.se [0] _ rfl
  refine thenN ?_
  refine wp_seq ?_
  obtain ⟨r76, hr76, H0⟩ := ob_split H0
  refine wpBlock (Mid := fun (a : Act) (w : World) => Fr 48 a [(7, .slice A49 r76.2.length c50), (8, .int .i64 r76.1)] ∧ Mem [] M w0 [.ow Kd.float 26 A49 c50 r76.2] w) ?_ ?_
  · refine wpLoop (slices_Repeat_float64.l0) r76 (fun (s75 : (Int × (List Nat))) (a : Act) (w : World) => Fr 48 a [(7, .slice A49 s75.2.length c50), (8, .int .i64 s75.1)] ∧ Mem [] M w0 [.ow Kd.float 26 A49 c50 s75.2] w) (((List.take ((List.replicate ((w64 (r28.2))).toNat (0 : Nat)).length) x0).length : Int), (cpy (List.replicate ((w64 (r28.2))).toNat (0 : Nat)) 0 (List.take ((List.replicate ((w64 (r28.2))).toNat (0 : Nat)).length) x0))) hr76 ⟨hf73.se [7, 8], hm74.se [0] _ rfl⟩ ?_
    rintro g77 s75 a78 w79 H1 ⟨hf80, hm81⟩
    unfold slices_Repeat_float64.l0 at H1
    refine wp_seq ?_
    refine wp_seq ?_
    rcases ifS_split H1 with ⟨c82, H1⟩ | ⟨c82, H1⟩
    rotate_left
    · refine rg (ob := [.is (decide (s75.1 < (s75.2.length : Int)) = false)]) [.bool false] [(7, .slice A49 s75.2.length c50), (8, vi s75.1), (37, .bool false)] hf80 ⟨(decide_eq_false c82), trivial⟩ fun a134 hf135 => ?_
      refine thenN ?_
      refine cF hf135 ?_
      refine wp_exit ?_
      refine thenE ?_
      refine thenE ?_
      obtain rfl := Option.some.inj H1
      exact .inl ⟨rfl, hf135.se [7, 8], hm81.se [0] _ rfl⟩
    refine rg (ob := [.is (decide (s75.1 < (s75.2.length : Int)) = true)]) [.bool true] [(7, .slice A49 s75.2.length c50), (8, vi s75.1), (37, .bool true)] hf80 ⟨(decide_eq_true c82), trivial⟩ fun a83 hf84 => ?_
    refine thenN ?_
    refine cT hf84 ?_
    refine wp_skip ?_
    refine thenN ?_
    refine wp_block ?_
    obtain ⟨g85, H1⟩ := ifS_guard H1
    refine midReg (fun (a : Act) (w : World) => Fr 48 a [(7, .slice A49 ((cpy s75.2 (s75.1).toNat (List.take (min ((s75.1).toNat - 0) (s75.2.length - (s75.1).toNat)) s75.2)).length) c50), (8, .int .i64 (w64 (s75.1 + ((List.take (min ((s75.1).toNat - 0) (s75.2.length - (s75.1).toNat)) s75.2).length : Int))))] ∧ Mem [] M w0 [.ow Kd.float 26 A49 c50 (cpy s75.2 (s75.1).toNat (List.take (min ((s75.1).toNat - 0) (s75.2.length - (s75.1).toNat)) s75.2))] w) ?_ ?_
    · refine anyG (K := []) [7] (by kernel_rfl) fun w97 hg98 => ?_
      have hm99 := hm81.still hg98
      have e115 : s75.2.length = s75.2.length := rfl
      have e115p : (s75.1).toNat + (s75.2.length - (s75.1).toNat) ≤ s75.2.length := by omega
      have e116 : s75.2.length = s75.2.length := rfl
      have e116p : 0 + ((s75.1).toNat - 0) ≤ s75.2.length := by omega
      refine qt [0, 1, 2, 3, 4, 5, 6] [] (fb 10 127) [(7, .slice A49 s75.2.length c50), (8, vi s75.1), (38, vi s75.1), (41, .slice (sub A49 c50 (s75.1).toNat 1) (s75.2.length - (s75.1).toNat) (c50 - (s75.1).toNat)), (44, .slice (sub A49 c50 0 1) ((s75.1).toNat - 0) (c50 - 0))] 3 hf84 (oi g85 (oi (sub_cap rfl (hm99.cpOw 0 rfl) g85) ot)) fun a117 hf118 => ?_
      refine a1 7 ?_
      refine oo hf118 rfl (aCopy (kd := Kd.float) (base := 0) (E := 26) (A := A49) (B := (sub A49 c50 0 1)) (D := (sub A49 c50 (s75.1).toNat 1)) (c := c50) (lo := (s75.1).toNat) (dn := (s75.2.length - (s75.1).toNat)) (dc := (c50 - (s75.1).toNat)) (sn := ((s75.1).toNat - 0)) (sc := (c50 - 0)) (xs := s75.2) (ys := (List.take (min ((s75.1).toNat - 0) (s75.2.length - (s75.1).toNat)) s75.2)) (d := 45) hf118 (by kernel_rfl) (.inl rfl) (by kernel_rfl) rfl (hm99.at 0 rfl) e115p ((Src.ow rfl (hm99.at 0 rfl) (min ((s75.1).toNat - 0) (s75.2.length - (s75.1).toNat))).sub0 _ _) (by have := e116p; rw [List.length_take]; show _ = min _ _; omega) ?_)
      intro w119 a120 ho122 hg123 hf121
      refine ⟨.inl (by decide), ?_⟩
      have e124 : (cpy s75.2 (s75.1).toNat (List.take (min ((s75.1).toNat - 0) (s75.2.length - (s75.1).toNat)) s75.2)).length = s75.2.length := cpy_length (by have := e115p; have := Nat.le_refl 0; simp only [List.length_take]; omega)
      have hf125 : Fr 48 a120 [(7, .slice A49 s75.2.length c50), (8, .int .i64 s75.1), (38, .int .i64 s75.1), (45, .int .i64 ((List.take (min ((s75.1).toNat - 0) (s75.2.length - (s75.1).toNat)) s75.2).length : Int))] := hf121.se [7, 8, 38, 45]
      have hf126 : Fr 48 a120 [(7, .slice A49 ((cpy s75.2 (s75.1).toNat (List.take (min ((s75.1).toNat - 0) (s75.2.length - (s75.1).toNat)) s75.2)).length) c50), (8, .int .i64 s75.1), (38, .int .i64 s75.1), (45, .int .i64 ((List.take (min ((s75.1).toNat - 0) (s75.2.length - (s75.1).toNat)) s75.2).length : Int))] := by simpa only [e124] using hf125
      have hm127 := hm99.setOwn 0 _ rfl rfl ho122 hg123 (.inl rfl)
      refine qt [8, 9] [] (fb 10 1023) [(7, .slice A49 ((cpy s75.2 (s75.1).toNat (List.take (min ((s75.1).toNat - 0) (s75.2.length - (s75.1).toNat)) s75.2)).length) c50), (8, vi (w64 (s75.1 + ((List.take (min ((s75.1).toNat - 0) (s75.2.length - (s75.1).toNat)) s75.2).length : Int))))] 0 hf126 ot fun a128 hf129 => ?_
      refine aD ⟨rfl, hf129.se [7, 8], hm127.se [0] _ rfl⟩
    rintro a130 w131 ⟨hf132, hm133⟩
    refine blkN ?_
    exact ⟨((w64 (s75.1 + ((List.take (min ((s75.1).toNat - 0) (s75.2.length - (s75.1).toNat)) s75.2).length : Int))), (cpy s75.2 (s75.1).toNat (List.take (min ((s75.1).toNat - 0) (s75.2.length - (s75.1).toNat)) s75.2))), H1, hf132.se [7, 8], hm133.se [0] _ rfl⟩
  rintro a136 w137 ⟨hf138, hm139⟩
  refine thenN ?_
  refine wp_seq ?_
  refine rg [] [(4, .slice A49 r76.2.length c50)] hf138 ot fun a140 hf141 => ?_
  refine thenN ?_
  refine wp_ret ?_
  have hm142 : Mem [] M w0 [.ow Kd.float 26 A49 c50 r76.2] w137 := hm139.se [0] _ rfl
  obtain rfl := Option.some.inj H0
  refine rt [] [.slice A49 r76.2.length c50] hf141 ot ?_
  exact ⟨_, rfl, A49, c50, rfl, hm142⟩
end Go.Proofs.Yteaoijahdinciaa
