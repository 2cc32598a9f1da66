/- Printed by gen.py. -/
import Derived.Test.YtkcgiolledmbnabF16
import Derived.Test.YtkcgiolledmbnabF2
namespace Go.Proofs.Ytkcgiolledmbnab
open Go Go.RowKit
set_option linter.unusedSimpArgs false
set_option linter.unusedVariables false
set_option linter.unnecessarySimpa false
/-! ### slices.IndexFunc[[]float64,float64] -/
noncomputable def slices_IndexFunc_float64_tensor_odd.l0 (x0 : (List Nat)) (s25 : Int) : Step Int (Out2 Int Int) :=
  if s25 < (x0.length : Int) then (if 0 ≤ s25 ∧ s25 < (x0.length : Int) then (bindS (tensor_odd.f (rd x0 s25)) fun r38 =>
  if r38 = true then (.done (.ret s25))
  else (.next (w64 (s25 + 1))))
  else .bad)
  else (.done (.go s25))
noncomputable def slices_IndexFunc_float64_tensor_odd.f (x0 : (List Nat)) : Option Int :=
  (loop (slices_IndexFunc_float64_tensor_odd.l0 x0) 0).bind fun r26 =>
  r26.on (fun yr26 =>
  some (-1)) (fun y => some y)
set_option maxRecDepth 100000 in
set_option maxHeartbeats 4000000 in
theorem slices_IndexFunc_float64_tensor_odd.calls (M : List (Option Nat)) (w0 : World) (x0 : (List Nat)) (A0 : Option Addr) (n0 c0 : Nat) (e0 : n0 = x0.length) (hm0 : Mem [] M w0 [.sl Kd.float A0 c0 x0] w0) (r : Int) (H0 : slices_IndexFunc_float64_tensor_odd.f x0 = some r) :
    Calls Try.prog 84 [.slice A0 n0 c0, .func (.func 68) #[] #[]].toArray w0 (fun x w' => ∃ v, x = .returned v ∧ v = .int .i64 r ∧ Mem [] M w0 [] w') := by
  subst e0
  unfold slices_IndexFunc_float64_tensor_odd.f at H0
  refine enter (n := 19) Try.func84 rfl rfl (by kernel_rfl) fun a0 (hf0 : Fr 19 a0 [(0, .slice A0 x0.length c0), (1, .func (.func 68) #[] #[])]) => ?_
  refine wp_seq ?_
  refine reg [] [0, 1] [(0, .slice A0 x0.length c0), (1, .func (.func 68) #[] #[])] [] hf0 (by kernel_rfl) trivial fun a21 hf22 => ?_
  refine thenN ?_
  refine wp_seq ?_
  refine wp_seq ?_
  refine reg [] [0, 1, 7, 8] [(0, .slice A0 x0.length c0), (1, .func (.func 68) #[] #[]), (7, .int .i64 (x0.length : Int)), (8, .int .i64 0)] [] hf22 (by kernel_rfl) trivial fun a23 hf24 => ?_
  refine thenN ?_
  obtain ⟨r26, hr26, H0⟩ := ob_split H0
  refine wpBlock (Mid := fun (a : Act) (w : World) => ∃ yr26 : Int, r26 = .go yr26 ∧ Fr 19 a [(0, .slice A0 x0.length c0), (1, .func (.func 68) #[] #[]), (7, .int .i64 (x0.length : Int)), (8, .int .i64 yr26)] ∧ Mem [] M w0 [.sl Kd.float A0 c0 x0] w) ?_ ?_
  · refine wpLoop (slices_IndexFunc_float64_tensor_odd.l0 x0) r26 (fun (s25 : Int) (a : Act) (w : World) => Fr 19 a [(0, .slice A0 x0.length c0), (1, .func (.func 68) #[] #[]), (7, .int .i64 (x0.length : Int)), (8, .int .i64 s25)] ∧ Mem [] M w0 [.sl Kd.float A0 c0 x0] w) 0 hr26 ⟨hf24.sel (l := [0, 1, 7, 8]) (by kernel_rfl), hm0.sel [0] _ rfl (by kernel_rfl)⟩ ?_
    rintro g27 s25 a28 w29 H1 ⟨hf30, hm31⟩
    unfold slices_IndexFunc_float64_tensor_odd.l0 at H1
    refine wp_seq ?_
    rcases ifS_split H1 with ⟨c32, H1⟩ | ⟨c32, H1⟩
    · refine reg [.bool true] [0, 1, 7, 8, 9] [(0, .slice A0 x0.length c0), (1, .func (.func 68) #[] #[]), (7, .int .i64 (x0.length : Int)), (8, .int .i64 s25), (9, .bool true)] [.is (decide (s25 < (x0.length : Int)) = true)] hf30 (by kernel_rfl) ⟨(decide_eq_true c32), trivial⟩ fun a33 hf34 => ?_
      refine thenN ?_
      refine wp_seq ?_
      refine condT hf34 (by kernel_rfl) ?_
      refine wp_skip ?_
      refine thenN ?_
      refine wp_seq ?_
      refine wp_block ?_
      refine wp_seq ?_
      refine reg [] [0, 1, 5, 7, 8] [(0, .slice A0 x0.length c0), (1, .func (.func 68) #[] #[]), (5, .int .i64 s25), (7, .int .i64 (x0.length : Int)), (8, .int .i64 s25)] [] hf34 (by kernel_rfl) trivial fun a35 hf36 => ?_
      refine thenN ?_
      refine wp_seq ?_
      obtain ⟨g37, H1⟩ := ifS_guard H1
      obtain ⟨r38, hr38, H1⟩ := obS_split H1
      have q39 := (hm31.slAt 0 rfl).float s25 g37.1 g37.2
      obtain ⟨b40, hb40, kb40⟩ := q39.2
      refine inReg ?_
      refine go 5 [.float .f64 b40] [0, 1, 5, 7, 8, 11, 15] [(0, .slice A0 x0.length c0), (1, .func (.func 68) #[] #[]), (5, .int .i64 s25), (7, .int .i64 (x0.length : Int)), (8, .int .i64 s25), (11, .func (.func 68) #[] #[]), (15, .float .f64 b40)] [.is (Option.isSome A0 = true), .is (0 ≤ s25 ∧ s25 < (x0.length : Int)), .cell ((ad A0).add ((s25).toNat * 1)) (.float .f64 b40)] hf36 (by kernel_rfl) ⟨q39.1, g37, kb40, trivial⟩ fun a41 hf42 => ?_
      refine listOf hf42 rfl (by kernel_rfl) (aCall (fid := 68) (args := [.float .f64 b40]) (d := 16) hf42 (by kernel_rfl) (by kernel_rfl) callable68 (tensor_odd.calls _ _ (rd x0 s25) b40 hb40 (hm31.give [] [] rfl rfl) r38 hr38) ?_)
      rintro _ w43 a44 ⟨rfl, hk46⟩ hf45
      have hm47 := hm31.still hk46.cum.none
      refine endL rfl ?_
      refine thenN ?_
      rcases ifbS_split H1 with ⟨c48, H1⟩ | ⟨c48, H1⟩
      · rw [c48] at hf45
        refine condT hf45 (by kernel_rfl) ?_
        refine wp_seq ?_
        refine reg [] [4] [(4, .int .i64 s25)] [] hf45 (by kernel_rfl) trivial fun a49 hf50 => ?_
        have hm51 := hm47.sel [] _ rfl (by kernel_rfl)
        refine thenN ?_
        refine wp_ret ?_
        refine blkR ?_
        refine thenR ?_
        refine thenR ?_
        refine .inr ⟨rfl, ?_⟩
        refine thenR ?_
        have hm52 : Mem [] M w0 [] w43 := hm51.sel [] _ rfl (by kernel_rfl)
        obtain rfl := Option.some.inj H1
        obtain rfl := Option.some.inj H0
        refine ret [] [.int .i64 s25] [] hf50 (by kernel_rfl) trivial ?_
        exact ⟨_, rfl, rfl, hm52⟩
      · rw [c48] at hf45
        refine condF hf45 (by kernel_rfl) ?_
        refine wp_skip ?_
        refine blkN ?_
        refine thenN ?_
        refine reg [] [0, 1, 7, 8] [(0, .slice A0 x0.length c0), (1, .func (.func 68) #[] #[]), (7, .int .i64 (x0.length : Int)), (8, .int .i64 (w64 (s25 + 1)))] [] hf45 (by kernel_rfl) trivial fun a54 hf55 => ?_
        exact ⟨(w64 (s25 + 1)), H1, hf55.sel (l := [0, 1, 7, 8]) (by kernel_rfl), hm47.sel [0] _ rfl (by kernel_rfl)⟩
    · refine reg [.bool false] [0, 1, 7, 8, 9] [(0, .slice A0 x0.length c0), (1, .func (.func 68) #[] #[]), (7, .int .i64 (x0.length : Int)), (8, .int .i64 s25), (9, .bool false)] [.is (decide (s25 < (x0.length : Int)) = false)] hf30 (by kernel_rfl) ⟨(decide_eq_false c32), trivial⟩ fun a56 hf57 => ?_
      refine thenN ?_
      refine wp_seq ?_
      refine condF hf57 (by kernel_rfl) ?_
      refine wp_exit ?_
      refine thenE ?_
      refine thenE ?_
      obtain rfl := Option.some.inj H1
      exact .inl ⟨rfl, s25, rfl, hf57.sel (l := [0, 1, 7, 8]) (by kernel_rfl), hm31.sel [0] _ rfl (by kernel_rfl)⟩
  rintro a58 w59 ⟨yr26, rfl, hf60, hm61⟩
  refine thenN ?_
  refine wp_seq ?_
  refine reg [] [4] [(4, .int .i64 (-1))] [] hf60 (by kernel_rfl) trivial fun a62 hf63 => ?_
  have hm65 := hm61.sel [] _ rfl (by kernel_rfl)
  refine thenN ?_
  refine wp_ret ?_
  have hm66 : Mem [] M w0 [] w59 := hm65.sel [] _ rfl (by kernel_rfl)
  obtain rfl := Option.some.inj H0
  refine ret [] [.int .i64 (-1)] [] hf63 (by kernel_rfl) trivial ?_
  exact ⟨_, rfl, rfl, hm66⟩

/-! ### slices.ContainsFunc[[]float64,float64] -/
noncomputable def slices_ContainsFunc_float64_tensor_odd.f (x0 : (List Nat)) : Option Bool :=
  (slices_IndexFunc_float64_tensor_odd.f x0).bind fun r23 =>
  if 0 ≤ r23 then (some true)
  else (some false)
set_option maxRecDepth 100000 in
set_option maxHeartbeats 4000000 in
theorem slices_ContainsFunc_float64_tensor_odd.calls (M : List (Option Nat)) (w0 : World) (x0 : (List Nat)) (A0 : Option Addr) (n0 c0 : Nat) (e0 : n0 = x0.length) (hm0 : Mem [] M w0 [.sl Kd.float A0 c0 x0] w0) (r : Bool) (H0 : slices_ContainsFunc_float64_tensor_odd.f x0 = some r) :
    Calls Try.prog 67 [.slice A0 n0 c0, .func (.func 68) #[] #[]].toArray w0 (fun x w' => ∃ v, x = .returned v ∧ v = .bool r ∧ Mem [] M w0 [] w') := by
  subst e0
  unfold slices_ContainsFunc_float64_tensor_odd.f at H0
  refine enter (n := 9) Try.func67 rfl rfl (by kernel_rfl) fun a0 (hf0 : Fr 9 a0 [(0, .slice A0 x0.length c0), (1, .func (.func 68) #[] #[])]) => ?_
  refine wp_seq ?_
  refine reg [] [0, 1] [(0, .slice A0 x0.length c0), (1, .func (.func 68) #[] #[])] [] hf0 (by kernel_rfl) trivial fun a21 hf22 => ?_
  refine thenN ?_
  refine wp_seq ?_
  obtain ⟨r23, hr23, H0⟩ := ob_split H0
  rcases if_split H0 with ⟨c24, H0⟩ | ⟨c24, H0⟩
  · refine inReg ?_
    refine go 2 [] [5, 6] [(5, .slice A0 x0.length c0), (6, .func (.func 68) #[] #[])] [] hf22 (by kernel_rfl) trivial fun a25 hf26 => ?_
    refine listOf hf26 rfl (by kernel_rfl) (aCall (fid := 84) (args := [.slice A0 x0.length c0, .func (.func 68) #[] #[]]) (d := 7) hf26 (by kernel_rfl) (by kernel_rfl) callable84 (slices_IndexFunc_float64_tensor_odd.calls _ _ x0 A0 x0.length c0 rfl (hm0.give [0] [.sl Kd.float A0 c0 x0] rfl rfl) r23 hr23) ?_)
    rintro _ w27 a28 ⟨rfl, hk30⟩ hf29
    have hm31 := hm0.still hk30.cum.none
    refine go 2 [.bool true] [4] [(4, .bool true)] [.is (decide (0 ≤ r23) = true)] hf29 (by kernel_rfl) ⟨(decide_eq_true c24), trivial⟩ fun a32 hf33 => ?_
    refine endL rfl ?_
    have hm34 := hm31.sel [] _ rfl (by kernel_rfl)
    refine thenN ?_
    refine wp_ret ?_
    have hm35 : Mem [] M w0 [] w27 := hm34.sel [] _ rfl (by kernel_rfl)
    obtain rfl := Option.some.inj H0
    refine ret [] [.bool true] [] hf33 (by kernel_rfl) trivial ?_
    exact ⟨_, rfl, rfl, hm35⟩
  · refine inReg ?_
    refine go 2 [] [5, 6] [(5, .slice A0 x0.length c0), (6, .func (.func 68) #[] #[])] [] hf22 (by kernel_rfl) trivial fun a37 hf38 => ?_
    refine listOf hf38 rfl (by kernel_rfl) (aCall (fid := 84) (args := [.slice A0 x0.length c0, .func (.func 68) #[] #[]]) (d := 7) hf38 (by kernel_rfl) (by kernel_rfl) callable84 (slices_IndexFunc_float64_tensor_odd.calls _ _ x0 A0 x0.length c0 rfl (hm0.give [0] [.sl Kd.float A0 c0 x0] rfl rfl) r23 hr23) ?_)
    rintro _ w39 a40 ⟨rfl, hk42⟩ hf41
    have hm43 := hm0.still hk42.cum.none
    refine go 2 [.bool false] [4] [(4, .bool false)] [.is (decide (0 ≤ r23) = false)] hf41 (by kernel_rfl) ⟨(decide_eq_false c24), trivial⟩ fun a44 hf45 => ?_
    refine endL rfl ?_
    have hm46 := hm43.sel [] _ rfl (by kernel_rfl)
    refine thenN ?_
    refine wp_ret ?_
    have hm47 : Mem [] M w0 [] w39 := hm46.sel [] _ rfl (by kernel_rfl)
    obtain rfl := Option.some.inj H0
    refine ret [] [.bool false] [] hf45 (by kernel_rfl) trivial ?_
    exact ⟨_, rfl, rfl, hm47⟩

/-! ### backstitch/tensor.Finite -/
noncomputable def tensor_Finite.f (x0 : Tensor) : Option Bool :=
  (tensor_May.f x0).bind fun r30 =>
  if r30 = true then ((slices_ContainsFunc_float64_tensor_odd.f x0.Data).bind fun r32 =>
  if r32 = true then (some false)
  else (some true))
  else (some false)
set_option maxRecDepth 100000 in
set_option maxHeartbeats 4000000 in
theorem tensor_Finite.calls (M : List (Option Nat)) (w0 : World) (x0 : Tensor) (A0_0 : Option Addr) (n0_0 c0_0 : Nat) (e0_0 : n0_0 = x0.Shape.length) (A0_1 : Option Addr) (n0_1 c0_1 : Nat) (e0_1 : n0_1 = x0.Data.length) (hm0 : Mem [] M w0 [.sl (Kd.int .i64) A0_0 c0_0 x0.Shape, .sl Kd.float A0_1 c0_1 x0.Data] w0) (r : Bool) (H0 : tensor_Finite.f x0 = some r) :
    Calls Try.prog 40 [.agg #[.slice A0_0 n0_0 c0_0, .slice A0_1 n0_1 c0_1]].toArray w0 (fun x w' => ∃ v, x = .returned v ∧ v = .bool r ∧ Mem [] M w0 [] w') := by
  subst e0_0
  subst e0_1
  unfold tensor_Finite.f at H0
  refine enter (n := 11) Try.func40 rfl rfl (by kernel_rfl) fun a0 (hf0 : Fr 11 a0 [(0, .agg #[.slice A0_0 x0.Shape.length c0_0, .slice A0_1 x0.Data.length c0_1])]) => ?_
  refine wp_seq ?_
  refine inReg ?_
  refine listOf hf0 rfl (by kernel_rfl) (aNew (cs := [.slice A0_0 x0.Shape.length c0_0, .slice A0_1 x0.Data.length c0_1]) (T := 28) (d := 1) hf0 (by kernel_rfl) (by kernel_rfl) ?_)
  intro b21 w22 a23 hbb21 hx25 hg26 hf24
  have hm27 := hm0.box hbb21 hx25 hg26
  refine go 1 [] [1] [(1, .pointer (some ⟨b21, 0, none⟩))] [] hf24 (by kernel_rfl) trivial fun a28 hf29 => ?_
  refine endL rfl ?_
  refine thenN ?_
  refine wp_seq ?_
  obtain ⟨r30, hr30, H0⟩ := ob_split H0
  rcases ifb_split H0 with ⟨c31, H0⟩ | ⟨c31, H0⟩
  · obtain ⟨r32, hr32, H0⟩ := ob_split H0
    rcases ifb_split H0 with ⟨c33, H0⟩ | ⟨c33, H0⟩
    · refine inReg ?_
      refine go 1 [.agg #[.slice A0_0 x0.Shape.length c0_0, .slice A0_1 x0.Data.length c0_1]] [1, 3] [(1, .pointer (some ⟨b21, 0, none⟩)), (3, .agg #[.slice A0_0 x0.Shape.length c0_0, .slice A0_1 x0.Data.length c0_1])] [.cell ⟨b21, 0, none⟩ (.slice A0_0 x0.Shape.length c0_0), .cell ⟨b21, 1, none⟩ (.slice A0_1 x0.Data.length c0_1)] hf29 (by kernel_rfl) ⟨(hm27.cell 0 rfl rfl), (hm27.cell 0 rfl rfl), trivial⟩ fun a34 hf35 => ?_
      refine listOf hf35 rfl (by kernel_rfl) (aCall (fid := 38) (args := [.agg #[.slice A0_0 x0.Shape.length c0_0, .slice A0_1 x0.Data.length c0_1]]) (d := 4) hf35 (by kernel_rfl) (by kernel_rfl) callable38 (tensor_May.calls _ _ x0 A0_0 x0.Shape.length c0_0 rfl A0_1 x0.Data.length c0_1 rfl (hm27.give [1, 2] [.sl (Kd.int .i64) A0_0 c0_0 x0.Shape, .sl Kd.float A0_1 c0_1 x0.Data] rfl rfl) r30 hr30) ?_)
      rintro _ w36 a37 ⟨rfl, hk39⟩ hf38
      have hm40 := hm27.still hk39.cum.none
      rw [c31] at hf38
      refine go 3 [.slice A0_1 x0.Data.length c0_1] [5, 7] [(5, .bool true), (7, .slice A0_1 x0.Data.length c0_1)] [.cell ⟨b21, 1, none⟩ (.slice A0_1 x0.Data.length c0_1)] hf38 (by kernel_rfl) ⟨(hm40.cell 0 rfl rfl), trivial⟩ fun a41 hf42 => ?_
      refine listOf hf42 rfl (by kernel_rfl) (aCall (fid := 67) (args := [.slice A0_1 x0.Data.length c0_1, .func (.func 68) #[] #[]]) (d := 8) hf42 (by kernel_rfl) (by kernel_rfl) callable67 (slices_ContainsFunc_float64_tensor_odd.calls _ _ x0.Data A0_1 x0.Data.length c0_1 rfl (hm40.give [2] [.sl Kd.float A0_1 c0_1 x0.Data] rfl rfl) r32 hr32) ?_)
      rintro _ w43 a44 ⟨rfl, hk46⟩ hf45
      have hm47 := hm40.still hk46.cum.none
      rw [c33] at hf45
      refine go 3 [] [2] [(2, .bool false)] [] hf45 (by kernel_rfl) trivial fun a48 hf49 => ?_
      refine endL rfl ?_
      have hm50 := hm47.sel [] _ rfl (by kernel_rfl)
      refine thenN ?_
      refine wp_ret ?_
      have hm51 : Mem [] M w0 [] w43 := hm50.sel [] _ rfl (by kernel_rfl)
      obtain rfl := Option.some.inj H0
      refine ret [] [.bool false] [] hf49 (by kernel_rfl) trivial ?_
      exact ⟨_, rfl, rfl, hm51⟩
    · refine inReg ?_
      refine go 1 [.agg #[.slice A0_0 x0.Shape.length c0_0, .slice A0_1 x0.Data.length c0_1]] [1, 3] [(1, .pointer (some ⟨b21, 0, none⟩)), (3, .agg #[.slice A0_0 x0.Shape.length c0_0, .slice A0_1 x0.Data.length c0_1])] [.cell ⟨b21, 0, none⟩ (.slice A0_0 x0.Shape.length c0_0), .cell ⟨b21, 1, none⟩ (.slice A0_1 x0.Data.length c0_1)] hf29 (by kernel_rfl) ⟨(hm27.cell 0 rfl rfl), (hm27.cell 0 rfl rfl), trivial⟩ fun a53 hf54 => ?_
      refine listOf hf54 rfl (by kernel_rfl) (aCall (fid := 38) (args := [.agg #[.slice A0_0 x0.Shape.length c0_0, .slice A0_1 x0.Data.length c0_1]]) (d := 4) hf54 (by kernel_rfl) (by kernel_rfl) callable38 (tensor_May.calls _ _ x0 A0_0 x0.Shape.length c0_0 rfl A0_1 x0.Data.length c0_1 rfl (hm27.give [1, 2] [.sl (Kd.int .i64) A0_0 c0_0 x0.Shape, .sl Kd.float A0_1 c0_1 x0.Data] rfl rfl) r30 hr30) ?_)
      rintro _ w55 a56 ⟨rfl, hk58⟩ hf57
      have hm59 := hm27.still hk58.cum.none
      rw [c31] at hf57
      refine go 3 [.slice A0_1 x0.Data.length c0_1] [5, 7] [(5, .bool true), (7, .slice A0_1 x0.Data.length c0_1)] [.cell ⟨b21, 1, none⟩ (.slice A0_1 x0.Data.length c0_1)] hf57 (by kernel_rfl) ⟨(hm59.cell 0 rfl rfl), trivial⟩ fun a60 hf61 => ?_
      refine listOf hf61 rfl (by kernel_rfl) (aCall (fid := 67) (args := [.slice A0_1 x0.Data.length c0_1, .func (.func 68) #[] #[]]) (d := 8) hf61 (by kernel_rfl) (by kernel_rfl) callable67 (slices_ContainsFunc_float64_tensor_odd.calls _ _ x0.Data A0_1 x0.Data.length c0_1 rfl (hm59.give [2] [.sl Kd.float A0_1 c0_1 x0.Data] rfl rfl) r32 hr32) ?_)
      rintro _ w62 a63 ⟨rfl, hk66⟩ hf65
      have hm67 := hm59.still hk66.cum.none
      rw [c33] at hf65
      refine go 3 [] [2] [(2, .bool true)] [] hf65 (by kernel_rfl) trivial fun a68 hf69 => ?_
      refine endL rfl ?_
      have hm70 := hm67.sel [] _ rfl (by kernel_rfl)
      refine thenN ?_
      refine wp_ret ?_
      have hm71 : Mem [] M w0 [] w62 := hm70.sel [] _ rfl (by kernel_rfl)
      obtain rfl := Option.some.inj H0
      refine ret [] [.bool true] [] hf69 (by kernel_rfl) trivial ?_
      exact ⟨_, rfl, rfl, hm71⟩
  · refine inReg ?_
    refine go 1 [.agg #[.slice A0_0 x0.Shape.length c0_0, .slice A0_1 x0.Data.length c0_1]] [1, 3] [(1, .pointer (some ⟨b21, 0, none⟩)), (3, .agg #[.slice A0_0 x0.Shape.length c0_0, .slice A0_1 x0.Data.length c0_1])] [.cell ⟨b21, 0, none⟩ (.slice A0_0 x0.Shape.length c0_0), .cell ⟨b21, 1, none⟩ (.slice A0_1 x0.Data.length c0_1)] hf29 (by kernel_rfl) ⟨(hm27.cell 0 rfl rfl), (hm27.cell 0 rfl rfl), trivial⟩ fun a73 hf74 => ?_
    refine listOf hf74 rfl (by kernel_rfl) (aCall (fid := 38) (args := [.agg #[.slice A0_0 x0.Shape.length c0_0, .slice A0_1 x0.Data.length c0_1]]) (d := 4) hf74 (by kernel_rfl) (by kernel_rfl) callable38 (tensor_May.calls _ _ x0 A0_0 x0.Shape.length c0_0 rfl A0_1 x0.Data.length c0_1 rfl (hm27.give [1, 2] [.sl (Kd.int .i64) A0_0 c0_0 x0.Shape, .sl Kd.float A0_1 c0_1 x0.Data] rfl rfl) r30 hr30) ?_)
    rintro _ w75 a76 ⟨rfl, hk78⟩ hf77
    have hm79 := hm27.still hk78.cum.none
    rw [c31] at hf77
    refine go 7 [] [2] [(2, .bool false)] [] hf77 (by kernel_rfl) trivial fun a80 hf81 => ?_
    refine endL rfl ?_
    have hm82 := hm79.sel [] _ rfl (by kernel_rfl)
    refine thenN ?_
    refine wp_ret ?_
    have hm83 : Mem [] M w0 [] w75 := hm82.sel [] _ rfl (by kernel_rfl)
    obtain rfl := Option.some.inj H0
    refine ret [] [.bool false] [] hf81 (by kernel_rfl) trivial ?_
    exact ⟨_, rfl, rfl, hm83⟩

/-! ### backstitch/real.Bits -/
noncomputable def real_Bits.f (x0 : Nat) : Option Int :=
  if (fne x0 x0) = true then (some 9221120237041090561)
  else (some (x0 : Int))
set_option maxRecDepth 100000 in
set_option maxHeartbeats 4000000 in
theorem real_Bits.calls (M : List (Option Nat)) (w0 : World) (x0 : Nat) (b0 : Nat) (h0 : FR b0 x0) (hm0 : Mem [] M w0 [] w0) (r : Int) (H0 : real_Bits.f x0 = some r) :
    Calls Try.prog 83 [.float .f64 b0].toArray w0 (fun x w' => ∃ v, x = .returned v ∧ v = .int .u64 r ∧ Mem [] M w0 [] w') := by
  unfold real_Bits.f at H0
  refine enter (n := 8) Try.func83 rfl rfl (by kernel_rfl) fun a0 (hf0 : Fr 8 a0 [(0, .float .f64 b0)]) => ?_
  refine wp_seq ?_
  refine reg [] [0] [(0, .float .f64 b0)] [] hf0 (by kernel_rfl) trivial fun a21 hf22 => ?_
  refine thenN ?_
  refine wp_seq ?_
  refine wp_seq ?_
  rcases ifb_split H0 with ⟨c23, H0⟩ | ⟨c23, H0⟩
  · refine reg [.bool true] [0, 5] [(0, .float .f64 b0), (5, .bool true)] [.is ((FloatKind.f64.format.order b0 b0 != some .eq) = true)] hf22 (by kernel_rfl) ⟨(ftNe h0 h0 c23), trivial⟩ fun a24 hf25 => ?_
    refine thenN ?_
    refine condT hf25 (by kernel_rfl) ?_
    refine wp_seq ?_
    refine reg [] [2] [(2, .int .u64 9221120237041090561)] [] hf25 (by kernel_rfl) trivial fun a26 hf27 => ?_
    refine thenN ?_
    refine wp_ret ?_
    refine thenR ?_
    have hm28 : Mem [] M w0 [] w0 := hm0.sel [] _ rfl (by kernel_rfl)
    obtain rfl := Option.some.inj H0
    refine ret [] [.int .u64 9221120237041090561] [] hf27 (by kernel_rfl) trivial ?_
    exact ⟨_, rfl, rfl, hm28⟩
  · refine reg [.bool false] [0, 5] [(0, .float .f64 b0), (5, .bool false)] [.is ((FloatKind.f64.format.order b0 b0 != some .eq) = false)] hf22 (by kernel_rfl) ⟨(ftNe h0 h0 c23), trivial⟩ fun a30 hf31 => ?_
    refine thenN ?_
    refine condF hf31 (by kernel_rfl) ?_
    refine wp_skip ?_
    refine thenN ?_
    refine wp_seq ?_
    refine inReg ?_
    refine go 1 [] [6] [(6, .float .f64 b0)] [] hf31 (by kernel_rfl) trivial fun a32 hf33 => ?_
    refine listOf hf33 rfl (by kernel_rfl) (aExtern (fid := 64) (args := [.float .f64 b0]) (d := 7) (R := fun v w' => v = .int .u64 (x0 : Int) ∧ w0 = w') hf33 (by kernel_rfl) (by kernel_rfl) ⟨_, Try.func64, rfl, rfl, by kernel_rfl, rfl⟩ ⟨_, _, run_bits _, by rw [FR.bits h0 c23], rfl⟩ ?_)
    rintro _ _ a35 ⟨rfl, rfl⟩ hf36
    refine go 1 [] [2] [(2, .int .u64 (x0 : Int))] [] hf36 (by kernel_rfl) trivial fun a37 hf38 => ?_
    refine endL rfl ?_
    refine thenN ?_
    refine wp_ret ?_
    have hm39 : Mem [] M w0 [] w0 := hm0.sel [] _ rfl (by kernel_rfl)
    obtain rfl := Option.some.inj H0
    refine ret [] [.int .u64 (x0 : Int)] [] hf38 (by kernel_rfl) trivial ?_
    exact ⟨_, rfl, rfl, hm39⟩

/-! ### backstitch/real.Same -/
noncomputable def real_Same.f (x0 : Nat) (x1 : Nat) : Option Bool :=
  (real_Bits.f x0).bind fun r23 =>
  (real_Bits.f x1).bind fun r24 =>
  if r23 = r24 then (some true)
  else (some false)
set_option maxRecDepth 100000 in
set_option maxHeartbeats 4000000 in
theorem real_Same.calls (M : List (Option Nat)) (w0 : World) (x0 : Nat) (b0 : Nat) (h0 : FR b0 x0) (x1 : Nat) (b1 : Nat) (h1 : FR b1 x1) (hm0 : Mem [] M w0 [] w0) (r : Bool) (H0 : real_Same.f x0 x1 = some r) :
    Calls Try.prog 66 [.float .f64 b0, .float .f64 b1].toArray w0 (fun x w' => ∃ v, x = .returned v ∧ v = .bool r ∧ Mem [] M w0 [] w') := by
  unfold real_Same.f at H0
  refine enter (n := 10) Try.func66 rfl rfl (by kernel_rfl) fun a0 (hf0 : Fr 10 a0 [(0, .float .f64 b0), (1, .float .f64 b1)]) => ?_
  refine wp_seq ?_
  refine reg [] [0, 1] [(0, .float .f64 b0), (1, .float .f64 b1)] [] hf0 (by kernel_rfl) trivial fun a21 hf22 => ?_
  refine thenN ?_
  refine wp_seq ?_
  obtain ⟨r23, hr23, H0⟩ := ob_split H0
  obtain ⟨r24, hr24, H0⟩ := ob_split H0
  rcases if_split H0 with ⟨c25, H0⟩ | ⟨c25, H0⟩
  · refine inReg ?_
    refine go 1 [] [1, 5] [(1, .float .f64 b1), (5, .float .f64 b0)] [] hf22 (by kernel_rfl) trivial fun a26 hf27 => ?_
    refine listOf hf27 rfl (by kernel_rfl) (aCall (fid := 83) (args := [.float .f64 b0]) (d := 6) hf27 (by kernel_rfl) (by kernel_rfl) callable83 (real_Bits.calls _ _ x0 b0 h0 (hm0.give [] [] rfl rfl) r23 hr23) ?_)
    rintro _ w28 a29 ⟨rfl, hk31⟩ hf30
    have hm32 := hm0.still hk31.cum.none
    refine go 1 [] [6, 7] [(6, .int .u64 r23), (7, .float .f64 b1)] [] hf30 (by kernel_rfl) trivial fun a33 hf34 => ?_
    refine listOf hf34 rfl (by kernel_rfl) (aCall (fid := 83) (args := [.float .f64 b1]) (d := 8) hf34 (by kernel_rfl) (by kernel_rfl) callable83 (real_Bits.calls _ _ x1 b1 h1 (hm32.give [] [] rfl rfl) r24 hr24) ?_)
    rintro _ w35 a36 ⟨rfl, hk38⟩ hf37
    have hm39 := hm32.still hk38.cum.none
    refine go 2 [.bool true] [4] [(4, .bool true)] [.is (((r23 : Int) == r24) = true)] hf37 (by kernel_rfl) ⟨(eqT c25), trivial⟩ fun a40 hf41 => ?_
    refine endL rfl ?_
    refine thenN ?_
    refine wp_ret ?_
    have hm42 : Mem [] M w0 [] w35 := hm39.sel [] _ rfl (by kernel_rfl)
    obtain rfl := Option.some.inj H0
    refine ret [] [.bool true] [] hf41 (by kernel_rfl) trivial ?_
    exact ⟨_, rfl, rfl, hm42⟩
  · refine inReg ?_
    refine go 1 [] [1, 5] [(1, .float .f64 b1), (5, .float .f64 b0)] [] hf22 (by kernel_rfl) trivial fun a44 hf45 => ?_
    refine listOf hf45 rfl (by kernel_rfl) (aCall (fid := 83) (args := [.float .f64 b0]) (d := 6) hf45 (by kernel_rfl) (by kernel_rfl) callable83 (real_Bits.calls _ _ x0 b0 h0 (hm0.give [] [] rfl rfl) r23 hr23) ?_)
    rintro _ w46 a47 ⟨rfl, hk49⟩ hf48
    have hm50 := hm0.still hk49.cum.none
    refine go 1 [] [6, 7] [(6, .int .u64 r23), (7, .float .f64 b1)] [] hf48 (by kernel_rfl) trivial fun a51 hf52 => ?_
    refine listOf hf52 rfl (by kernel_rfl) (aCall (fid := 83) (args := [.float .f64 b1]) (d := 8) hf52 (by kernel_rfl) (by kernel_rfl) callable83 (real_Bits.calls _ _ x1 b1 h1 (hm50.give [] [] rfl rfl) r24 hr24) ?_)
    rintro _ w53 a54 ⟨rfl, hk56⟩ hf55
    have hm57 := hm50.still hk56.cum.none
    refine go 2 [.bool false] [4] [(4, .bool false)] [.is (((r23 : Int) == r24) = false)] hf55 (by kernel_rfl) ⟨(eqF c25), trivial⟩ fun a58 hf59 => ?_
    refine endL rfl ?_
    refine thenN ?_
    refine wp_ret ?_
    have hm60 : Mem [] M w0 [] w53 := hm57.sel [] _ rfl (by kernel_rfl)
    obtain rfl := Option.some.inj H0
    refine ret [] [.bool false] [] hf59 (by kernel_rfl) trivial ?_
    exact ⟨_, rfl, rfl, hm60⟩

/-! ### slices.EqualFunc[[]float64,[]float64,float64,float64] -/
noncomputable def slices_EqualFunc_float64_real_Same.l0 (x0 : (List Nat)) (x1 : (List Nat)) (s28 : Int) : Step Int (Out2 Int Bool) :=
  if s28 < (x0.length : Int) then (if 0 ≤ s28 ∧ s28 < (x0.length : Int) then (if 0 ≤ s28 ∧ s28 < (x1.length : Int) then (bindS (real_Same.f (rd x0 s28) (rd x1 s28)) fun r48 =>
  if r48 = true then (.next (w64 (s28 + 1)))
  else (.done (.ret false)))
  else .bad)
  else .bad)
  else (.done (.go s28))
noncomputable def slices_EqualFunc_float64_real_Same.f (x0 : (List Nat)) (x1 : (List Nat)) : Option Bool :=
  if (x0.length : Int) = (x1.length : Int) then ((loop (slices_EqualFunc_float64_real_Same.l0 x0 x1) 0).bind fun r29 =>
  r29.on (fun yr29 =>
  some true) (fun y => some y))
  else (some false)
set_option maxRecDepth 100000 in
set_option maxHeartbeats 4000000 in
theorem slices_EqualFunc_float64_real_Same.calls (M : List (Option Nat)) (w0 : World) (x0 : (List Nat)) (A0 : Option Addr) (n0 c0 : Nat) (e0 : n0 = x0.length) (x1 : (List Nat)) (A1 : Option Addr) (n1 c1 : Nat) (e1 : n1 = x1.length) (hm0 : Mem [] M w0 [.sl Kd.float A0 c0 x0, .sl Kd.float A1 c1 x1] w0) (r : Bool) (H0 : slices_EqualFunc_float64_real_Same.f x0 x1 = some r) :
    Calls Try.prog 65 [.slice A0 n0 c0, .slice A1 n1 c1, .func (.func 66) #[] #[]].toArray w0 (fun x w' => ∃ v, x = .returned v ∧ v = .bool r ∧ Mem [] M w0 [] w') := by
  subst e0
  subst e1
  unfold slices_EqualFunc_float64_real_Same.f at H0
  refine enter (n := 32) Try.func65 rfl rfl (by kernel_rfl) fun a0 (hf0 : Fr 32 a0 [(0, .slice A0 x0.length c0), (1, .slice A1 x1.length c1), (2, .func (.func 66) #[] #[])]) => ?_
  refine wp_seq ?_
  refine reg [] [0, 1, 2] [(0, .slice A0 x0.length c0), (1, .slice A1 x1.length c1), (2, .func (.func 66) #[] #[])] [] hf0 (by kernel_rfl) trivial fun a21 hf22 => ?_
  refine thenN ?_
  refine wp_seq ?_
  refine wp_seq ?_
  rcases if_split H0 with ⟨c23, H0⟩ | ⟨c23, H0⟩
  · refine reg [.bool false] [0, 1, 2, 14] [(0, .slice A0 x0.length c0), (1, .slice A1 x1.length c1), (2, .func (.func 66) #[] #[]), (14, .bool false)] [.is ((((x0.length : Int) : Int) != (x1.length : Int)) = false)] hf22 (by kernel_rfl) ⟨(neF c23), trivial⟩ fun a24 hf25 => ?_
    refine thenN ?_
    refine condF hf25 (by kernel_rfl) ?_
    refine wp_skip ?_
    refine thenN ?_
    refine wp_seq ?_
    refine wp_seq ?_
    refine reg [] [1, 2, 15, 16, 17] [(1, .slice A1 x1.length c1), (2, .func (.func 66) #[] #[]), (15, .slice A0 x0.length c0), (16, .int .i64 (x0.length : Int)), (17, .int .i64 0)] [] hf25 (by kernel_rfl) trivial fun a26 hf27 => ?_
    refine thenN ?_
    obtain ⟨r29, hr29, H0⟩ := ob_split H0
    refine wpBlock (Mid := fun (a : Act) (w : World) => ∃ yr29 : Int, r29 = .go yr29 ∧ Fr 32 a [(1, .slice A1 x1.length c1), (2, .func (.func 66) #[] #[]), (15, .slice A0 x0.length c0), (16, .int .i64 (x0.length : Int)), (17, .int .i64 yr29)] ∧ Mem [] M w0 [.sl Kd.float A0 c0 x0, .sl Kd.float A1 c1 x1] w) ?_ ?_
    · refine wpLoop (slices_EqualFunc_float64_real_Same.l0 x0 x1) r29 (fun (s28 : Int) (a : Act) (w : World) => Fr 32 a [(1, .slice A1 x1.length c1), (2, .func (.func 66) #[] #[]), (15, .slice A0 x0.length c0), (16, .int .i64 (x0.length : Int)), (17, .int .i64 s28)] ∧ Mem [] M w0 [.sl Kd.float A0 c0 x0, .sl Kd.float A1 c1 x1] w) 0 hr29 ⟨hf27.sel (l := [1, 2, 15, 16, 17]) (by kernel_rfl), hm0.sel [0, 1] _ rfl (by kernel_rfl)⟩ ?_
      rintro g30 s28 a31 w32 H1 ⟨hf33, hm34⟩
      unfold slices_EqualFunc_float64_real_Same.l0 at H1
      refine wp_seq ?_
      rcases ifS_split H1 with ⟨c35, H1⟩ | ⟨c35, H1⟩
      · refine reg [.bool true] [1, 2, 15, 16, 17, 18] [(1, .slice A1 x1.length c1), (2, .func (.func 66) #[] #[]), (15, .slice A0 x0.length c0), (16, .int .i64 (x0.length : Int)), (17, .int .i64 s28), (18, .bool true)] [.is (decide (s28 < (x0.length : Int)) = true)] hf33 (by kernel_rfl) ⟨(decide_eq_true c35), trivial⟩ fun a36 hf37 => ?_
        refine thenN ?_
        refine wp_seq ?_
        refine condT hf37 (by kernel_rfl) ?_
        refine wp_skip ?_
        refine thenN ?_
        refine wp_seq ?_
        refine wp_block ?_
        refine wp_seq ?_
        obtain ⟨g38, H1⟩ := ifS_guard H1
        have q39 := (hm34.slAt 0 rfl).float s28 g38.1 g38.2
        obtain ⟨b40, hb40, kb40⟩ := q39.2
        refine reg [.float .f64 b40] [1, 2, 7, 8, 15, 16, 17] [(1, .slice A1 x1.length c1), (2, .func (.func 66) #[] #[]), (7, .int .i64 s28), (8, .float .f64 b40), (15, .slice A0 x0.length c0), (16, .int .i64 (x0.length : Int)), (17, .int .i64 s28)] [.is (Option.isSome A0 = true), .is (0 ≤ s28 ∧ s28 < (x0.length : Int)), .cell ((ad A0).add ((s28).toNat * 1)) (.float .f64 b40)] hf37 (by kernel_rfl) ⟨q39.1, g38, kb40, trivial⟩ fun a41 hf42 => ?_
        refine thenN ?_
        refine wp_seq ?_
        obtain ⟨g43, H1⟩ := ifS_guard H1
        have q44 := (hm34.slAt 1 rfl).float s28 g43.1 g43.2
        obtain ⟨b45, hb45, kb45⟩ := q44.2
        refine reg [.float .f64 b45] [1, 2, 8, 9, 15, 16, 17] [(1, .slice A1 x1.length c1), (2, .func (.func 66) #[] #[]), (8, .float .f64 b40), (9, .float .f64 b45), (15, .slice A0 x0.length c0), (16, .int .i64 (x0.length : Int)), (17, .int .i64 s28)] [.is (Option.isSome A1 = true), .is (0 ≤ s28 ∧ s28 < (x1.length : Int)), .cell ((ad A1).add ((s28).toNat * 1)) (.float .f64 b45)] hf42 (by kernel_rfl) ⟨q44.1, g43, kb45, trivial⟩ fun a46 hf47 => ?_
        refine thenN ?_
        refine wp_seq ?_
        obtain ⟨r48, hr48, H1⟩ := obS_split H1
        rcases ifbS_split H1 with ⟨c49, H1⟩ | ⟨c49, H1⟩
        · refine inReg ?_
          refine go 3 [] [1, 2, 15, 16, 17, 26, 27, 28] [(1, .slice A1 x1.length c1), (2, .func (.func 66) #[] #[]), (15, .slice A0 x0.length c0), (16, .int .i64 (x0.length : Int)), (17, .int .i64 s28), (26, .func (.func 66) #[] #[]), (27, .float .f64 b40), (28, .float .f64 b45)] [] hf47 (by kernel_rfl) trivial fun a50 hf51 => ?_
          refine listOf hf51 rfl (by kernel_rfl) (aCall (fid := 66) (args := [.float .f64 b40, .float .f64 b45]) (d := 29) hf51 (by kernel_rfl) (by kernel_rfl) callable66 (real_Same.calls _ _ (rd x0 s28) b40 hb40 (rd x1 s28) b45 hb45 (hm34.give [] [] rfl rfl) r48 hr48) ?_)
          rintro _ w52 a53 ⟨rfl, hk55⟩ hf54
          have hm56 := hm34.still hk55.cum.none
          rw [c49] at hf54
          refine go 1 [] [1, 2, 15, 16, 17, 30] [(1, .slice A1 x1.length c1), (2, .func (.func 66) #[] #[]), (15, .slice A0 x0.length c0), (16, .int .i64 (x0.length : Int)), (17, .int .i64 s28), (30, .bool false)] [] hf54 (by kernel_rfl) trivial fun a57 hf58 => ?_
          refine endL rfl ?_
          refine thenN ?_
          refine condF hf58 (by kernel_rfl) ?_
          refine wp_skip ?_
          refine blkN ?_
          refine thenN ?_
          refine reg [] [1, 2, 15, 16, 17] [(1, .slice A1 x1.length c1), (2, .func (.func 66) #[] #[]), (15, .slice A0 x0.length c0), (16, .int .i64 (x0.length : Int)), (17, .int .i64 (w64 (s28 + 1)))] [] hf58 (by kernel_rfl) trivial fun a59 hf60 => ?_
          exact ⟨(w64 (s28 + 1)), H1, hf60.sel (l := [1, 2, 15, 16, 17]) (by kernel_rfl), hm56.sel [0, 1] _ rfl (by kernel_rfl)⟩
        · refine inReg ?_
          refine go 3 [] [1, 2, 15, 16, 17, 26, 27, 28] [(1, .slice A1 x1.length c1), (2, .func (.func 66) #[] #[]), (15, .slice A0 x0.length c0), (16, .int .i64 (x0.length : Int)), (17, .int .i64 s28), (26, .func (.func 66) #[] #[]), (27, .float .f64 b40), (28, .float .f64 b45)] [] hf47 (by kernel_rfl) trivial fun a61 hf62 => ?_
          refine listOf hf62 rfl (by kernel_rfl) (aCall (fid := 66) (args := [.float .f64 b40, .float .f64 b45]) (d := 29) hf62 (by kernel_rfl) (by kernel_rfl) callable66 (real_Same.calls _ _ (rd x0 s28) b40 hb40 (rd x1 s28) b45 hb45 (hm34.give [] [] rfl rfl) r48 hr48) ?_)
          rintro _ w63 a65 ⟨rfl, hk67⟩ hf66
          have hm68 := hm34.still hk67.cum.none
          rw [c49] at hf66
          refine go 1 [] [1, 2, 15, 16, 17, 30] [(1, .slice A1 x1.length c1), (2, .func (.func 66) #[] #[]), (15, .slice A0 x0.length c0), (16, .int .i64 (x0.length : Int)), (17, .int .i64 s28), (30, .bool true)] [] hf66 (by kernel_rfl) trivial fun a69 hf70 => ?_
          refine endL rfl ?_
          refine thenN ?_
          refine condT hf70 (by kernel_rfl) ?_
          refine wp_seq ?_
          refine reg [] [6] [(6, .bool false)] [] hf70 (by kernel_rfl) trivial fun a71 hf72 => ?_
          have hm73 := hm68.sel [] _ rfl (by kernel_rfl)
          refine thenN ?_
          refine wp_ret ?_
          refine blkR ?_
          refine thenR ?_
          refine thenR ?_
          refine .inr ⟨rfl, ?_⟩
          refine thenR ?_
          have hm74 : Mem [] M w0 [] w63 := hm73.sel [] _ rfl (by kernel_rfl)
          obtain rfl := Option.some.inj H1
          obtain rfl := Option.some.inj H0
          refine ret [] [.bool false] [] hf72 (by kernel_rfl) trivial ?_
          exact ⟨_, rfl, rfl, hm74⟩
      · refine reg [.bool false] [1, 2, 15, 16, 17, 18] [(1, .slice A1 x1.length c1), (2, .func (.func 66) #[] #[]), (15, .slice A0 x0.length c0), (16, .int .i64 (x0.length : Int)), (17, .int .i64 s28), (18, .bool false)] [.is (decide (s28 < (x0.length : Int)) = false)] hf33 (by kernel_rfl) ⟨(decide_eq_false c35), trivial⟩ fun a76 hf77 => ?_
        refine thenN ?_
        refine wp_seq ?_
        refine condF hf77 (by kernel_rfl) ?_
        refine wp_exit ?_
        refine thenE ?_
        refine thenE ?_
        obtain rfl := Option.some.inj H1
        exact .inl ⟨rfl, s28, rfl, hf77.sel (l := [1, 2, 15, 16, 17]) (by kernel_rfl), hm34.sel [0, 1] _ rfl (by kernel_rfl)⟩
    rintro a78 w79 ⟨yr29, rfl, hf80, hm81⟩
    refine thenN ?_
    refine wp_seq ?_
    refine reg [] [6] [(6, .bool true)] [] hf80 (by kernel_rfl) trivial fun a82 hf83 => ?_
    have hm84 := hm81.sel [] _ rfl (by kernel_rfl)
    refine thenN ?_
    refine wp_ret ?_
    have hm85 : Mem [] M w0 [] w79 := hm84.sel [] _ rfl (by kernel_rfl)
    obtain rfl := Option.some.inj H0
    refine ret [] [.bool true] [] hf83 (by kernel_rfl) trivial ?_
    exact ⟨_, rfl, rfl, hm85⟩
  · refine reg [.bool true] [0, 1, 2, 14] [(0, .slice A0 x0.length c0), (1, .slice A1 x1.length c1), (2, .func (.func 66) #[] #[]), (14, .bool true)] [.is ((((x0.length : Int) : Int) != (x1.length : Int)) = true)] hf22 (by kernel_rfl) ⟨(neT c23), trivial⟩ fun a87 hf88 => ?_
    refine thenN ?_
    refine condT hf88 (by kernel_rfl) ?_
    refine wp_seq ?_
    refine reg [] [6] [(6, .bool false)] [] hf88 (by kernel_rfl) trivial fun a89 hf90 => ?_
    have hm91 := hm0.sel [] _ rfl (by kernel_rfl)
    refine thenN ?_
    refine wp_ret ?_
    refine thenR ?_
    have hm92 : Mem [] M w0 [] w0 := hm91.sel [] _ rfl (by kernel_rfl)
    obtain rfl := Option.some.inj H0
    refine ret [] [.bool false] [] hf90 (by kernel_rfl) trivial ?_
    exact ⟨_, rfl, rfl, hm92⟩

/-! ### backstitch/tensor.Same -/
noncomputable def tensor_Same.f (x0 : Tensor) (x1 : Tensor) : Option Bool :=
  (shape_Same.f x0.Shape x1.Shape).bind fun r37 =>
  if r37 = true then ((slices_EqualFunc_float64_real_Same.f x0.Data x1.Data).bind fun r39 =>
  some r39)
  else (some false)
set_option maxRecDepth 100000 in
set_option maxHeartbeats 4000000 in
theorem tensor_Same.calls (M : List (Option Nat)) (w0 : World) (x0 : Tensor) (A0_0 : Option Addr) (n0_0 c0_0 : Nat) (e0_0 : n0_0 = x0.Shape.length) (A0_1 : Option Addr) (n0_1 c0_1 : Nat) (e0_1 : n0_1 = x0.Data.length) (x1 : Tensor) (A1_0 : Option Addr) (n1_0 c1_0 : Nat) (e1_0 : n1_0 = x1.Shape.length) (A1_1 : Option Addr) (n1_1 c1_1 : Nat) (e1_1 : n1_1 = x1.Data.length) (hm0 : Mem [] M w0 [.sl (Kd.int .i64) A0_0 c0_0 x0.Shape, .sl Kd.float A0_1 c0_1 x0.Data, .sl (Kd.int .i64) A1_0 c1_0 x1.Shape, .sl Kd.float A1_1 c1_1 x1.Data] w0) (r : Bool) (H0 : tensor_Same.f x0 x1 = some r) :
    Calls Try.prog 39 [.agg #[.slice A0_0 n0_0 c0_0, .slice A0_1 n0_1 c0_1], .agg #[.slice A1_0 n1_0 c1_0, .slice A1_1 n1_1 c1_1]].toArray w0 (fun x w' => ∃ v, x = .returned v ∧ v = .bool r ∧ Mem [] M w0 [] w') := by
  subst e0_0
  subst e0_1
  subst e1_0
  subst e1_1
  unfold tensor_Same.f at H0
  refine enter (n := 17) Try.func39 rfl rfl (by kernel_rfl) fun a0 (hf0 : Fr 17 a0 [(0, .agg #[.slice A0_0 x0.Shape.length c0_0, .slice A0_1 x0.Data.length c0_1]), (1, .agg #[.slice A1_0 x1.Shape.length c1_0, .slice A1_1 x1.Data.length c1_1])]) => ?_
  refine wp_seq ?_
  refine inReg ?_
  refine listOf hf0 rfl (by kernel_rfl) (aNew (cs := [.slice A0_0 x0.Shape.length c0_0, .slice A0_1 x0.Data.length c0_1]) (T := 28) (d := 2) hf0 (by kernel_rfl) (by kernel_rfl) ?_)
  intro b21 w22 a23 hbb21 hx25 hg26 hf24
  have hm27 := hm0.box hbb21 hx25 hg26
  refine listOf hf24 rfl (by kernel_rfl) (aNew (cs := [.slice A1_0 x1.Shape.length c1_0, .slice A1_1 x1.Data.length c1_1]) (T := 28) (d := 3) hf24 (by kernel_rfl) (by kernel_rfl) ?_)
  intro b28 w29 a30 hbb28 hx32 hg33 hf31
  have hm34 := hm27.box hbb28 hx32 hg33
  refine go 1 [] [2, 3] [(2, .pointer (some ⟨b21, 0, none⟩)), (3, .pointer (some ⟨b28, 0, none⟩))] [] hf31 (by kernel_rfl) trivial fun a35 hf36 => ?_
  refine endL rfl ?_
  refine thenN ?_
  refine wp_seq ?_
  obtain ⟨r37, hr37, H0⟩ := ob_split H0
  rcases ifb_split H0 with ⟨c38, H0⟩ | ⟨c38, H0⟩
  · obtain ⟨r39, hr39, H0⟩ := ob_split H0
    refine inReg ?_
    refine go 4 [.slice A0_0 x0.Shape.length c0_0, .slice A1_0 x1.Shape.length c1_0] [2, 3, 6, 8] [(2, .pointer (some ⟨b21, 0, none⟩)), (3, .pointer (some ⟨b28, 0, none⟩)), (6, .slice A0_0 x0.Shape.length c0_0), (8, .slice A1_0 x1.Shape.length c1_0)] [.cell ⟨b21, 0, none⟩ (.slice A0_0 x0.Shape.length c0_0), .cell ⟨b28, 0, none⟩ (.slice A1_0 x1.Shape.length c1_0)] hf36 (by kernel_rfl) ⟨(hm34.cell 1 rfl rfl), (hm34.cell 0 rfl rfl), trivial⟩ fun a40 hf41 => ?_
    refine listOf hf41 rfl (by kernel_rfl) (aCall (fid := 48) (args := [.slice A0_0 x0.Shape.length c0_0, .slice A1_0 x1.Shape.length c1_0]) (d := 9) hf41 (by kernel_rfl) (by kernel_rfl) callable48 (shape_Same.calls _ _ x0.Shape A0_0 x0.Shape.length c0_0 rfl x1.Shape A1_0 x1.Shape.length c1_0 rfl (hm34.give [2, 4] [.sl (Kd.int .i64) A0_0 c0_0 x0.Shape, .sl (Kd.int .i64) A1_0 c1_0 x1.Shape] rfl rfl) r37 hr37) ?_)
    rintro _ w42 a43 ⟨rfl, hk45⟩ hf44
    have hm46 := hm34.still hk45.cum.none
    rw [c38] at hf44
    refine go 5 [.slice A0_1 x0.Data.length c0_1, .slice A1_1 x1.Data.length c1_1] [10, 12, 14] [(10, .bool true), (12, .slice A0_1 x0.Data.length c0_1), (14, .slice A1_1 x1.Data.length c1_1)] [.cell ⟨b21, 1, none⟩ (.slice A0_1 x0.Data.length c0_1), .cell ⟨b28, 1, none⟩ (.slice A1_1 x1.Data.length c1_1)] hf44 (by kernel_rfl) ⟨(hm46.cell 1 rfl rfl), (hm46.cell 0 rfl rfl), trivial⟩ fun a47 hf48 => ?_
    refine listOf hf48 rfl (by kernel_rfl) (aCall (fid := 65) (args := [.slice A0_1 x0.Data.length c0_1, .slice A1_1 x1.Data.length c1_1, .func (.func 66) #[] #[]]) (d := 15) hf48 (by kernel_rfl) (by kernel_rfl) callable65 (slices_EqualFunc_float64_real_Same.calls _ _ x0.Data A0_1 x0.Data.length c0_1 rfl x1.Data A1_1 x1.Data.length c1_1 rfl (hm46.give [3, 5] [.sl Kd.float A0_1 c0_1 x0.Data, .sl Kd.float A1_1 c1_1 x1.Data] rfl rfl) r39 hr39) ?_)
    rintro _ w49 a50 ⟨rfl, hk52⟩ hf51
    have hm53 := hm46.still hk52.cum.none
    refine go 2 [] [4] [(4, .bool r39)] [] hf51 (by kernel_rfl) trivial fun a54 hf55 => ?_
    refine endL rfl ?_
    have hm56 := hm53.sel [] _ rfl (by kernel_rfl)
    refine thenN ?_
    refine wp_ret ?_
    have hm57 : Mem [] M w0 [] w49 := hm56.sel [] _ rfl (by kernel_rfl)
    obtain rfl := Option.some.inj H0
    refine ret [] [.bool r39] [] hf55 (by kernel_rfl) trivial ?_
    exact ⟨_, rfl, rfl, hm57⟩
  · refine inReg ?_
    refine go 4 [.slice A0_0 x0.Shape.length c0_0, .slice A1_0 x1.Shape.length c1_0] [2, 3, 6, 8] [(2, .pointer (some ⟨b21, 0, none⟩)), (3, .pointer (some ⟨b28, 0, none⟩)), (6, .slice A0_0 x0.Shape.length c0_0), (8, .slice A1_0 x1.Shape.length c1_0)] [.cell ⟨b21, 0, none⟩ (.slice A0_0 x0.Shape.length c0_0), .cell ⟨b28, 0, none⟩ (.slice A1_0 x1.Shape.length c1_0)] hf36 (by kernel_rfl) ⟨(hm34.cell 1 rfl rfl), (hm34.cell 0 rfl rfl), trivial⟩ fun a59 hf60 => ?_
    refine listOf hf60 rfl (by kernel_rfl) (aCall (fid := 48) (args := [.slice A0_0 x0.Shape.length c0_0, .slice A1_0 x1.Shape.length c1_0]) (d := 9) hf60 (by kernel_rfl) (by kernel_rfl) callable48 (shape_Same.calls _ _ x0.Shape A0_0 x0.Shape.length c0_0 rfl x1.Shape A1_0 x1.Shape.length c1_0 rfl (hm34.give [2, 4] [.sl (Kd.int .i64) A0_0 c0_0 x0.Shape, .sl (Kd.int .i64) A1_0 c1_0 x1.Shape] rfl rfl) r37 hr37) ?_)
    rintro _ w61 a62 ⟨rfl, hk65⟩ hf63
    have hm66 := hm34.still hk65.cum.none
    rw [c38] at hf63
    refine go 8 [] [4] [(4, .bool false)] [] hf63 (by kernel_rfl) trivial fun a67 hf68 => ?_
    refine endL rfl ?_
    have hm69 := hm66.sel [] _ rfl (by kernel_rfl)
    refine thenN ?_
    refine wp_ret ?_
    have hm70 : Mem [] M w0 [] w61 := hm69.sel [] _ rfl (by kernel_rfl)
    obtain rfl := Option.some.inj H0
    refine ret [] [.bool false] [] hf68 (by kernel_rfl) trivial ?_
    exact ⟨_, rfl, rfl, hm70⟩
end Go.Proofs.Ytkcgiolledmbnab
