/- Printed by gen.py. -/
import Derived.Test.YtgekodhpkhdanaaK
namespace Go.Proofs.Ytgekodhpkhdanaa
open Go Go.RowKit
set_option linter.unusedSimpArgs false
set_option linter.unusedVariables false
set_option linter.unnecessarySimpa false
/-! ### backstitch/shape.Size$1 -/
noncomputable def shape_Size_1.f (x0 : Int) : Option Bool :=
  if x0 < 1 then (some true)
  else (some false)
set_option maxRecDepth 100000 in
set_option maxHeartbeats 4000000 in
theorem shape_Size_1.calls (M : List (Option Nat)) (w0 : World) (x0 : Int) (hm0 : Mem [] M w0 [] w0) (r : Bool) (H0 : shape_Size_1.f x0 = some r) :
    Calls Try.prog 28 [.int .i64 x0].toArray w0 (fun x w' => ∃ v, x = .returned v ∧ v = .bool r ∧ Mem [] M w0 [] w') := by
  unfold shape_Size_1.f at H0
  refine enter (n := 5) Try.func28 rfl rfl (by kernel_rfl) fun a0 (hf0 : Fr 5 a0 [(0, .int .i64 x0)]) => ?_
  refine wp_seq ?_
  refine reg [] [0] [(0, .int .i64 x0)] [] hf0 (by kernel_rfl) trivial fun a1 hf2 => ?_
  refine thenN ?_
  refine wp_seq ?_
  rcases if_split H0 with ⟨c3, H0⟩ | ⟨c3, H0⟩
  · refine reg [.bool true] [2] [(2, .bool true)] [.is (decide (x0 < 1) = true)] hf2 (by kernel_rfl) ⟨(decide_eq_true c3), trivial⟩ fun a4 hf5 => ?_
    refine thenN ?_
    refine wp_ret ?_
    have hm6 : Mem [] M w0 [] w0 := hm0.sel [] _ rfl (by kernel_rfl)
    obtain rfl := Option.some.inj H0
    refine ret [] [.bool true] [] hf5 (by kernel_rfl) trivial ?_
    exact ⟨_, rfl, rfl, hm6⟩
  · refine reg [.bool false] [2] [(2, .bool false)] [.is (decide (x0 < 1) = false)] hf2 (by kernel_rfl) ⟨(decide_eq_false c3), trivial⟩ fun a8 hf9 => ?_
    refine thenN ?_
    refine wp_ret ?_
    have hm10 : Mem [] M w0 [] w0 := hm0.sel [] _ rfl (by kernel_rfl)
    obtain rfl := Option.some.inj H0
    refine ret [] [.bool false] [] hf9 (by kernel_rfl) trivial ?_
    exact ⟨_, rfl, rfl, hm10⟩

/-! ### slices.IndexFunc[[]int,int] -/
noncomputable def slices_IndexFunc_int_shape_Size_1.l0 (x0 : (List Int)) (s5 : Int) : Step Int (Out2 Int Int) :=
  if s5 < (x0.length : Int) then (if 0 ≤ s5 ∧ s5 < (x0.length : Int) then (bindS (shape_Size_1.f (rd x0 s5)) fun r18 =>
  if r18 = true then (.done (.ret s5))
  else (.next (w64 (s5 + 1))))
  else .bad)
  else (.done (.go s5))
noncomputable def slices_IndexFunc_int_shape_Size_1.f (x0 : (List Int)) : Option Int :=
  (loop (slices_IndexFunc_int_shape_Size_1.l0 x0) 0).bind fun r6 =>
  r6.on (fun yr6 =>
  some (-1)) (fun y => some y)
set_option maxRecDepth 100000 in
set_option maxHeartbeats 4000000 in
theorem slices_IndexFunc_int_shape_Size_1.calls (M : List (Option Nat)) (w0 : World) (x0 : (List Int)) (A0 : Option Addr) (n0 c0 : Nat) (e0 : n0 = x0.length) (hm0 : Mem [] M w0 [.sl (Kd.int .i64) A0 c0 x0] w0) (r : Int) (H0 : slices_IndexFunc_int_shape_Size_1.f x0 = some r) :
    Calls Try.prog 30 [.slice A0 n0 c0, .func (.func 28) #[] #[]].toArray w0 (fun x w' => ∃ v, x = .returned v ∧ v = .int .i64 r ∧ Mem [] M w0 [] w') := by
  subst e0
  unfold slices_IndexFunc_int_shape_Size_1.f at H0
  refine enter (n := 19) Try.func30 rfl rfl (by kernel_rfl) fun a0 (hf0 : Fr 19 a0 [(0, .slice A0 x0.length c0), (1, .func (.func 28) #[] #[])]) => ?_
  refine wp_seq ?_
  refine reg [] [0, 1] [(0, .slice A0 x0.length c0), (1, .func (.func 28) #[] #[])] [] hf0 (by kernel_rfl) trivial fun a1 hf2 => ?_
  refine thenN ?_
  refine wp_seq ?_
  refine wp_seq ?_
  refine reg [] [0, 1, 7, 8] [(0, .slice A0 x0.length c0), (1, .func (.func 28) #[] #[]), (7, .int .i64 (x0.length : Int)), (8, .int .i64 0)] [] hf2 (by kernel_rfl) trivial fun a3 hf4 => ?_
  refine thenN ?_
  obtain ⟨r6, hr6, H0⟩ := ob_split H0
  refine wpBlock (Mid := fun (a : Act) (w : World) => ∃ yr6 : Int, r6 = .go yr6 ∧ Fr 19 a [(0, .slice A0 x0.length c0), (1, .func (.func 28) #[] #[]), (7, .int .i64 (x0.length : Int)), (8, .int .i64 yr6)] ∧ Mem [] M w0 [.sl (Kd.int .i64) A0 c0 x0] w) ?_ ?_
  · refine wpLoop (slices_IndexFunc_int_shape_Size_1.l0 x0) r6 (fun (s5 : Int) (a : Act) (w : World) => Fr 19 a [(0, .slice A0 x0.length c0), (1, .func (.func 28) #[] #[]), (7, .int .i64 (x0.length : Int)), (8, .int .i64 s5)] ∧ Mem [] M w0 [.sl (Kd.int .i64) A0 c0 x0] w) 0 hr6 ⟨hf4.sel (l := [0, 1, 7, 8]) (by kernel_rfl), hm0.sel [0] _ rfl (by kernel_rfl)⟩ ?_
    rintro g7 s5 a8 w9 H1 ⟨hf10, hm11⟩
    unfold slices_IndexFunc_int_shape_Size_1.l0 at H1
    refine wp_seq ?_
    rcases ifS_split H1 with ⟨c12, H1⟩ | ⟨c12, H1⟩
    · refine reg [.bool true] [0, 1, 7, 8, 9] [(0, .slice A0 x0.length c0), (1, .func (.func 28) #[] #[]), (7, .int .i64 (x0.length : Int)), (8, .int .i64 s5), (9, .bool true)] [.is (decide (s5 < (x0.length : Int)) = true)] hf10 (by kernel_rfl) ⟨(decide_eq_true c12), trivial⟩ fun a13 hf14 => ?_
      refine thenN ?_
      refine wp_seq ?_
      refine condT hf14 (by kernel_rfl) ?_
      refine wp_skip ?_
      refine thenN ?_
      refine wp_seq ?_
      refine wp_block ?_
      refine wp_seq ?_
      refine reg [] [0, 1, 5, 7, 8] [(0, .slice A0 x0.length c0), (1, .func (.func 28) #[] #[]), (5, .int .i64 s5), (7, .int .i64 (x0.length : Int)), (8, .int .i64 s5)] [] hf14 (by kernel_rfl) trivial fun a15 hf16 => ?_
      refine thenN ?_
      refine wp_seq ?_
      obtain ⟨g17, H1⟩ := ifS_guard H1
      obtain ⟨r18, hr18, H1⟩ := obS_split H1
      have q19 := (hm11.slAt 0 rfl).int s5 g17.1 g17.2
      refine inReg ?_
      refine go 5 [.int .i64 (rd x0 s5)] [0, 1, 5, 7, 8, 11, 15] [(0, .slice A0 x0.length c0), (1, .func (.func 28) #[] #[]), (5, .int .i64 s5), (7, .int .i64 (x0.length : Int)), (8, .int .i64 s5), (11, .func (.func 28) #[] #[]), (15, .int .i64 (rd x0 s5))] [.is (Option.isSome A0 = true), .is (0 ≤ s5 ∧ s5 < (x0.length : Int)), .cell ((ad A0).add ((s5).toNat * 1)) (.int .i64 (rd x0 s5))] hf16 (by kernel_rfl) ⟨q19.1, g17, q19.2, trivial⟩ fun a20 hf21 => ?_
      refine listOf hf21 rfl (by kernel_rfl) (aCall (fid := 28) (args := [.int .i64 (rd x0 s5)]) (d := 16) hf21 (by kernel_rfl) (by kernel_rfl) callable28 (shape_Size_1.calls _ _ (rd x0 s5) (hm11.give [] [] rfl rfl) r18 hr18) ?_)
      rintro _ w22 a23 ⟨rfl, hk25⟩ hf24
      have hm26 : Mem [] M w0 [.sl (Kd.int .i64) A0 c0 x0] w22 := hm11.still hk25.cum.none
      refine endL rfl ?_
      refine thenN ?_
      rcases ifbS_split H1 with ⟨c27, H1⟩ | ⟨c27, H1⟩
      · rw [c27] at hf24
        refine condT hf24 (by kernel_rfl) ?_
        refine wp_seq ?_
        refine reg [] [4] [(4, .int .i64 s5)] [] hf24 (by kernel_rfl) trivial fun a28 hf29 => ?_
        have hm30 : Mem [] M w0 [] w22 := hm26.sel [] _ rfl (by kernel_rfl)
        refine thenN ?_
        refine wp_ret ?_
        refine blkR ?_
        refine thenR ?_
        refine thenR ?_
        refine .inr ⟨rfl, ?_⟩
        refine thenR ?_
        have hm31 : Mem [] M w0 [] w22 := hm30.sel [] _ rfl (by kernel_rfl)
        obtain rfl := Option.some.inj H1
        obtain rfl := Option.some.inj H0
        refine ret [] [.int .i64 s5] [] hf29 (by kernel_rfl) trivial ?_
        exact ⟨_, rfl, rfl, hm31⟩
      · rw [c27] at hf24
        refine condF hf24 (by kernel_rfl) ?_
        refine wp_skip ?_
        refine blkN ?_
        refine thenN ?_
        refine reg [] [0, 1, 7, 8] [(0, .slice A0 x0.length c0), (1, .func (.func 28) #[] #[]), (7, .int .i64 (x0.length : Int)), (8, .int .i64 (w64 (s5 + 1)))] [] hf24 (by kernel_rfl) trivial fun a33 hf34 => ?_
        exact ⟨(w64 (s5 + 1)), H1, hf34.sel (l := [0, 1, 7, 8]) (by kernel_rfl), hm26.sel [0] _ rfl (by kernel_rfl)⟩
    · refine reg [.bool false] [0, 1, 7, 8, 9] [(0, .slice A0 x0.length c0), (1, .func (.func 28) #[] #[]), (7, .int .i64 (x0.length : Int)), (8, .int .i64 s5), (9, .bool false)] [.is (decide (s5 < (x0.length : Int)) = false)] hf10 (by kernel_rfl) ⟨(decide_eq_false c12), trivial⟩ fun a35 hf36 => ?_
      refine thenN ?_
      refine wp_seq ?_
      refine condF hf36 (by kernel_rfl) ?_
      refine wp_exit ?_
      refine thenE ?_
      refine thenE ?_
      obtain rfl := Option.some.inj H1
      exact .inl ⟨rfl, s5, rfl, hf36.sel (l := [0, 1, 7, 8]) (by kernel_rfl), hm11.sel [0] _ rfl (by kernel_rfl)⟩
  rintro a37 w38 ⟨yr6, rfl, hf39, hm40⟩
  refine thenN ?_
  refine wp_seq ?_
  refine reg [] [4] [(4, .int .i64 (-1))] [] hf39 (by kernel_rfl) trivial fun a41 hf42 => ?_
  have hm43 : Mem [] M w0 [] w38 := hm40.sel [] _ rfl (by kernel_rfl)
  refine thenN ?_
  refine wp_ret ?_
  have hm44 : Mem [] M w0 [] w38 := hm43.sel [] _ rfl (by kernel_rfl)
  obtain rfl := Option.some.inj H0
  refine ret [] [.int .i64 (-1)] [] hf42 (by kernel_rfl) trivial ?_
  exact ⟨_, rfl, rfl, hm44⟩

/-! ### slices.ContainsFunc[[]int,int] -/
noncomputable def slices_ContainsFunc_int_shape_Size_1.f (x0 : (List Int)) : Option Bool :=
  (slices_IndexFunc_int_shape_Size_1.f x0).bind fun r3 =>
  if 0 ≤ r3 then (some true)
  else (some false)
set_option maxRecDepth 100000 in
set_option maxHeartbeats 4000000 in
theorem slices_ContainsFunc_int_shape_Size_1.calls (M : List (Option Nat)) (w0 : World) (x0 : (List Int)) (A0 : Option Addr) (n0 c0 : Nat) (e0 : n0 = x0.length) (hm0 : Mem [] M w0 [.sl (Kd.int .i64) A0 c0 x0] w0) (r : Bool) (H0 : slices_ContainsFunc_int_shape_Size_1.f x0 = some r) :
    Calls Try.prog 27 [.slice A0 n0 c0, .func (.func 28) #[] #[]].toArray w0 (fun x w' => ∃ v, x = .returned v ∧ v = .bool r ∧ Mem [] M w0 [] w') := by
  subst e0
  unfold slices_ContainsFunc_int_shape_Size_1.f at H0
  refine enter (n := 9) Try.func27 rfl rfl (by kernel_rfl) fun a0 (hf0 : Fr 9 a0 [(0, .slice A0 x0.length c0), (1, .func (.func 28) #[] #[])]) => ?_
  refine wp_seq ?_
  refine reg [] [0, 1] [(0, .slice A0 x0.length c0), (1, .func (.func 28) #[] #[])] [] hf0 (by kernel_rfl) trivial fun a1 hf2 => ?_
  refine thenN ?_
  refine wp_seq ?_
  obtain ⟨r3, hr3, H0⟩ := ob_split H0
  rcases if_split H0 with ⟨c4, H0⟩ | ⟨c4, H0⟩
  · refine inReg ?_
    refine go 2 [] [5, 6] [(5, .slice A0 x0.length c0), (6, .func (.func 28) #[] #[])] [] hf2 (by kernel_rfl) trivial fun a5 hf6 => ?_
    refine listOf hf6 rfl (by kernel_rfl) (aCall (fid := 30) (args := [.slice A0 x0.length c0, .func (.func 28) #[] #[]]) (d := 7) hf6 (by kernel_rfl) (by kernel_rfl) callable30 (slices_IndexFunc_int_shape_Size_1.calls _ _ x0 A0 x0.length c0 rfl (hm0.give [0] [.sl (Kd.int .i64) A0 c0 x0] rfl rfl) r3 hr3) ?_)
    rintro _ w7 a8 ⟨rfl, hk10⟩ hf9
    have hm11 : Mem [] M w0 [.sl (Kd.int .i64) A0 c0 x0] w7 := hm0.still hk10.cum.none
    refine go 2 [.bool true] [4] [(4, .bool true)] [.is (decide (0 ≤ r3) = true)] hf9 (by kernel_rfl) ⟨(decide_eq_true c4), trivial⟩ fun a12 hf13 => ?_
    refine endL rfl ?_
    have hm14 : Mem [] M w0 [] w7 := hm11.sel [] _ rfl (by kernel_rfl)
    refine thenN ?_
    refine wp_ret ?_
    have hm15 : Mem [] M w0 [] w7 := hm14.sel [] _ rfl (by kernel_rfl)
    obtain rfl := Option.some.inj H0
    refine ret [] [.bool true] [] hf13 (by kernel_rfl) trivial ?_
    exact ⟨_, rfl, rfl, hm15⟩
  · refine inReg ?_
    refine go 2 [] [5, 6] [(5, .slice A0 x0.length c0), (6, .func (.func 28) #[] #[])] [] hf2 (by kernel_rfl) trivial fun a17 hf18 => ?_
    refine listOf hf18 rfl (by kernel_rfl) (aCall (fid := 30) (args := [.slice A0 x0.length c0, .func (.func 28) #[] #[]]) (d := 7) hf18 (by kernel_rfl) (by kernel_rfl) callable30 (slices_IndexFunc_int_shape_Size_1.calls _ _ x0 A0 x0.length c0 rfl (hm0.give [0] [.sl (Kd.int .i64) A0 c0 x0] rfl rfl) r3 hr3) ?_)
    rintro _ w19 a20 ⟨rfl, hk22⟩ hf21
    have hm23 : Mem [] M w0 [.sl (Kd.int .i64) A0 c0 x0] w19 := hm0.still hk22.cum.none
    refine go 2 [.bool false] [4] [(4, .bool false)] [.is (decide (0 ≤ r3) = false)] hf21 (by kernel_rfl) ⟨(decide_eq_false c4), trivial⟩ fun a24 hf25 => ?_
    refine endL rfl ?_
    have hm26 : Mem [] M w0 [] w19 := hm23.sel [] _ rfl (by kernel_rfl)
    refine thenN ?_
    refine wp_ret ?_
    have hm27 : Mem [] M w0 [] w19 := hm26.sel [] _ rfl (by kernel_rfl)
    obtain rfl := Option.some.inj H0
    refine ret [] [.bool false] [] hf25 (by kernel_rfl) trivial ?_
    exact ⟨_, rfl, rfl, hm27⟩

/-! ### backstitch/shape.Size -/
noncomputable def shape_Size.l0 (x0 : (List Int)) (s31 : (Int × Int)) : Step (Int × Int) (Out2 (Int × Int) (Int × Int)) :=
  if s31.2 < (x0.length : Int) then (if 0 ≤ s31.2 ∧ s31.2 < (x0.length : Int) then (if s31.1 ≠ 0 then (if (w64 (Int.tdiv 4096 s31.1)) < (rd x0 s31.2) then (.done (.ret (0, 3)))
  else (.next ((w64 (s31.1 * (rd x0 s31.2))), (w64 (s31.2 + 1)))))
  else .bad)
  else .bad)
  else (.done (.go (s31.1, s31.2)))
noncomputable def shape_Size.f (x0 : (List Int)) : Option (Int × Int) :=
  if 4 < (x0.length : Int) then (some (0, 2))
  else ((slices_ContainsFunc_int_shape_Size_1.f x0).bind fun r11 =>
  if r11 = true then (some (0, 2))
  else ((loop (shape_Size.l0 x0) (1, 0)).bind fun r32 =>
  r32.on (fun yr32 =>
  some (yr32.1, 0)) (fun y => some y)))
set_option maxRecDepth 100000 in
set_option maxHeartbeats 4000000 in
theorem shape_Size.calls (M : List (Option Nat)) (w0 : World) (x0 : (List Int)) (A0 : Option Addr) (n0 c0 : Nat) (e0 : n0 = x0.length) (hm0 : Mem [] M w0 [.sl (Kd.int .i64) A0 c0 x0] w0) (r : (Int × Int)) (H0 : shape_Size.f x0 = some r) :
    Calls Try.prog 15 [.slice A0 n0 c0].toArray w0 (fun x w' => ∃ v, x = .returned v ∧ v = .tuple #[.int .i64 r.1, .int .i64 r.2] ∧ Mem [] M w0 [] w') := by
  subst e0
  unfold shape_Size.f at H0
  refine enter (n := 29) Try.func15 rfl rfl (by kernel_rfl) fun a0 (hf0 : Fr 29 a0 [(0, .slice A0 x0.length c0)]) => ?_
  refine wp_seq ?_
  refine reg [] [0] [(0, .slice A0 x0.length c0)] [] hf0 (by kernel_rfl) trivial fun a1 hf2 => ?_
  refine thenN ?_
  refine wp_seq ?_
  refine wp_seq ?_
  rcases if_split H0 with ⟨c3, H0⟩ | ⟨c3, H0⟩
  · refine reg [.bool true] [0, 13] [(0, .slice A0 x0.length c0), (13, .bool true)] [.is (decide (4 < (x0.length : Int)) = true)] hf2 (by kernel_rfl) ⟨(decide_eq_true c3), trivial⟩ fun a4 hf5 => ?_
    refine thenN ?_
    refine condT hf5 (by kernel_rfl) ?_
    refine wp_seq ?_
    refine reg [] [2, 3] [(2, .int .i64 0), (3, .int .i64 2)] [] hf5 (by kernel_rfl) trivial fun a6 hf7 => ?_
    have hm8 : Mem [] M w0 [] w0 := hm0.sel [] _ rfl (by kernel_rfl)
    refine thenN ?_
    refine wp_ret ?_
    refine thenR ?_
    have hm9 : Mem [] M w0 [] w0 := hm8.sel [] _ rfl (by kernel_rfl)
    obtain rfl := Option.some.inj H0
    refine ret [] [.int .i64 0, .int .i64 2] [] hf7 (by kernel_rfl) trivial ?_
    exact ⟨_, rfl, rfl, hm9⟩
  · obtain ⟨r11, hr11, H0⟩ := ob_split H0
    refine inReg ?_
    refine go 5 [.bool false] [0, 10, 11] [(0, .slice A0 x0.length c0), (10, .bool false), (11, .slice A0 x0.length c0)] [.is (decide (4 < (x0.length : Int)) = false)] hf2 (by kernel_rfl) ⟨(decide_eq_false c3), trivial⟩ fun a12 hf13 => ?_
    refine listOf hf13 rfl (by kernel_rfl) (aCall (fid := 27) (args := [.slice A0 x0.length c0, .func (.func 28) #[] #[]]) (d := 12) hf13 (by kernel_rfl) (by kernel_rfl) callable27 (slices_ContainsFunc_int_shape_Size_1.calls _ _ x0 A0 x0.length c0 rfl (hm0.give [0] [.sl (Kd.int .i64) A0 c0 x0] rfl rfl) r11 hr11) ?_)
    rintro _ w14 a15 ⟨rfl, hk17⟩ hf16
    have hm18 : Mem [] M w0 [.sl (Kd.int .i64) A0 c0 x0] w14 := hm0.still hk17.cum.none
    refine go 1 [] [0, 13] [(0, .slice A0 x0.length c0), (13, .bool r11)] [] hf16 (by kernel_rfl) trivial fun a19 hf20 => ?_
    refine endL rfl ?_
    refine thenN ?_
    rcases ifb_split H0 with ⟨c21, H0⟩ | ⟨c21, H0⟩
    · rw [c21] at hf20
      refine condT hf20 (by kernel_rfl) ?_
      refine wp_seq ?_
      refine reg [] [2, 3] [(2, .int .i64 0), (3, .int .i64 2)] [] hf20 (by kernel_rfl) trivial fun a22 hf23 => ?_
      have hm24 : Mem [] M w0 [] w14 := hm18.sel [] _ rfl (by kernel_rfl)
      refine thenN ?_
      refine wp_ret ?_
      refine thenR ?_
      have hm25 : Mem [] M w0 [] w14 := hm24.sel [] _ rfl (by kernel_rfl)
      obtain rfl := Option.some.inj H0
      refine ret [] [.int .i64 0, .int .i64 2] [] hf23 (by kernel_rfl) trivial ?_
      exact ⟨_, rfl, rfl, hm25⟩
    · rw [c21] at hf20
      refine condF hf20 (by kernel_rfl) ?_
      refine wp_skip ?_
      refine thenN ?_
      refine wp_seq ?_
      refine reg [] [0, 4] [(0, .slice A0 x0.length c0), (4, .int .i64 1)] [] hf20 (by kernel_rfl) trivial fun a27 hf28 => ?_
      refine thenN ?_
      refine wp_seq ?_
      refine wp_seq ?_
      refine reg [] [4, 14, 15, 16] [(4, .int .i64 1), (14, .slice A0 x0.length c0), (15, .int .i64 (x0.length : Int)), (16, .int .i64 0)] [] hf28 (by kernel_rfl) trivial fun a29 hf30 => ?_
      refine thenN ?_
      obtain ⟨r32, hr32, H0⟩ := ob_split H0
      refine wpBlock (Mid := fun (a : Act) (w : World) => ∃ yr32 : (Int × Int), r32 = .go yr32 ∧ Fr 29 a [(4, .int .i64 yr32.1), (14, .slice A0 x0.length c0), (15, .int .i64 (x0.length : Int)), (16, .int .i64 yr32.2)] ∧ Mem [] M w0 [.sl (Kd.int .i64) A0 c0 x0] w) ?_ ?_
      · refine wpLoop (shape_Size.l0 x0) r32 (fun (s31 : (Int × Int)) (a : Act) (w : World) => Fr 29 a [(4, .int .i64 s31.1), (14, .slice A0 x0.length c0), (15, .int .i64 (x0.length : Int)), (16, .int .i64 s31.2)] ∧ Mem [] M w0 [.sl (Kd.int .i64) A0 c0 x0] w) (1, 0) hr32 ⟨hf30.sel (l := [4, 14, 15, 16]) (by kernel_rfl), hm18.sel [0] _ rfl (by kernel_rfl)⟩ ?_
        rintro g33 s31 a34 w35 H1 ⟨hf36, hm37⟩
        unfold shape_Size.l0 at H1
        refine wp_seq ?_
        rcases ifS_split H1 with ⟨c38, H1⟩ | ⟨c38, H1⟩
        · refine reg [.bool true] [4, 14, 15, 16, 17] [(4, .int .i64 s31.1), (14, .slice A0 x0.length c0), (15, .int .i64 (x0.length : Int)), (16, .int .i64 s31.2), (17, .bool true)] [.is (decide (s31.2 < (x0.length : Int)) = true)] hf36 (by kernel_rfl) ⟨(decide_eq_true c38), trivial⟩ fun a39 hf40 => ?_
          refine thenN ?_
          refine wp_seq ?_
          refine condT hf40 (by kernel_rfl) ?_
          refine wp_skip ?_
          refine thenN ?_
          refine wp_seq ?_
          refine wp_block ?_
          refine wp_seq ?_
          obtain ⟨g41, H1⟩ := ifS_guard H1
          have q42 := (hm37.slAt 0 rfl).int s31.2 g41.1 g41.2
          refine reg [.int .i64 (rd x0 s31.2)] [4, 6, 14, 15, 16] [(4, .int .i64 s31.1), (6, .int .i64 (rd x0 s31.2)), (14, .slice A0 x0.length c0), (15, .int .i64 (x0.length : Int)), (16, .int .i64 s31.2)] [.is (Option.isSome A0 = true), .is (0 ≤ s31.2 ∧ s31.2 < (x0.length : Int)), .cell ((ad A0).add ((s31.2).toNat * 1)) (.int .i64 (rd x0 s31.2))] hf40 (by kernel_rfl) ⟨q42.1, g41, q42.2, trivial⟩ fun a43 hf44 => ?_
          refine thenN ?_
          refine wp_seq ?_
          refine wp_seq ?_
          obtain ⟨g45, H1⟩ := ifS_guard H1
          rcases ifS_split H1 with ⟨c46, H1⟩ | ⟨c46, H1⟩
          · refine reg [.bool true] [4, 6, 14, 15, 16, 23] [(4, .int .i64 s31.1), (6, .int .i64 (rd x0 s31.2)), (14, .slice A0 x0.length c0), (15, .int .i64 (x0.length : Int)), (16, .int .i64 s31.2), (23, .bool true)] [.is (s31.1 ≠ 0), .is (decide ((w64 (Int.tdiv 4096 s31.1)) < (rd x0 s31.2)) = true)] hf44 (by kernel_rfl) ⟨g45, (decide_eq_true c46), trivial⟩ fun a47 hf48 => ?_
            refine thenN ?_
            refine condT hf48 (by kernel_rfl) ?_
            refine wp_seq ?_
            refine reg [] [2, 3] [(2, .int .i64 0), (3, .int .i64 3)] [] hf48 (by kernel_rfl) trivial fun a49 hf50 => ?_
            have hm51 : Mem [] M w0 [] w35 := hm37.sel [] _ rfl (by kernel_rfl)
            refine thenN ?_
            refine wp_ret ?_
            refine thenR ?_
            refine blkR ?_
            refine thenR ?_
            refine thenR ?_
            refine .inr ⟨rfl, ?_⟩
            refine thenR ?_
            have hm52 : Mem [] M w0 [] w35 := hm51.sel [] _ rfl (by kernel_rfl)
            obtain rfl := Option.some.inj H1
            obtain rfl := Option.some.inj H0
            refine ret [] [.int .i64 0, .int .i64 3] [] hf50 (by kernel_rfl) trivial ?_
            exact ⟨_, rfl, rfl, hm52⟩
          · refine reg [.bool false] [4, 6, 14, 15, 16, 23] [(4, .int .i64 s31.1), (6, .int .i64 (rd x0 s31.2)), (14, .slice A0 x0.length c0), (15, .int .i64 (x0.length : Int)), (16, .int .i64 s31.2), (23, .bool false)] [.is (s31.1 ≠ 0), .is (decide ((w64 (Int.tdiv 4096 s31.1)) < (rd x0 s31.2)) = false)] hf44 (by kernel_rfl) ⟨g45, (decide_eq_false c46), trivial⟩ fun a54 hf55 => ?_
            refine thenN ?_
            refine condF hf55 (by kernel_rfl) ?_
            refine wp_skip ?_
            refine thenN ?_
            refine reg [] [4, 14, 15, 16] [(4, .int .i64 (w64 (s31.1 * (rd x0 s31.2)))), (14, .slice A0 x0.length c0), (15, .int .i64 (x0.length : Int)), (16, .int .i64 s31.2)] [] hf55 (by kernel_rfl) trivial fun a56 hf57 => ?_
            refine blkN ?_
            refine thenN ?_
            refine reg [] [4, 14, 15, 16] [(4, .int .i64 (w64 (s31.1 * (rd x0 s31.2)))), (14, .slice A0 x0.length c0), (15, .int .i64 (x0.length : Int)), (16, .int .i64 (w64 (s31.2 + 1)))] [] hf57 (by kernel_rfl) trivial fun a58 hf59 => ?_
            exact ⟨((w64 (s31.1 * (rd x0 s31.2))), (w64 (s31.2 + 1))), H1, hf59.sel (l := [4, 14, 15, 16]) (by kernel_rfl), hm37.sel [0] _ rfl (by kernel_rfl)⟩
        · refine reg [.bool false] [4, 14, 15, 16, 17] [(4, .int .i64 s31.1), (14, .slice A0 x0.length c0), (15, .int .i64 (x0.length : Int)), (16, .int .i64 s31.2), (17, .bool false)] [.is (decide (s31.2 < (x0.length : Int)) = false)] hf36 (by kernel_rfl) ⟨(decide_eq_false c38), trivial⟩ fun a60 hf61 => ?_
          refine thenN ?_
          refine wp_seq ?_
          refine condF hf61 (by kernel_rfl) ?_
          refine wp_exit ?_
          refine thenE ?_
          refine thenE ?_
          obtain rfl := Option.some.inj H1
          exact .inl ⟨rfl, (s31.1, s31.2), rfl, hf61.sel (l := [4, 14, 15, 16]) (by kernel_rfl), hm37.sel [0] _ rfl (by kernel_rfl)⟩
      rintro a62 w63 ⟨yr32, rfl, hf64, hm65⟩
      refine thenN ?_
      refine wp_seq ?_
      refine reg [] [2, 3] [(2, .int .i64 yr32.1), (3, .int .i64 0)] [] hf64 (by kernel_rfl) trivial fun a66 hf67 => ?_
      have hm68 : Mem [] M w0 [] w63 := hm65.sel [] _ rfl (by kernel_rfl)
      refine thenN ?_
      refine wp_ret ?_
      have hm69 : Mem [] M w0 [] w63 := hm68.sel [] _ rfl (by kernel_rfl)
      obtain rfl := Option.some.inj H0
      refine ret [] [.int .i64 yr32.1, .int .i64 0] [] hf67 (by kernel_rfl) trivial ?_
      exact ⟨_, rfl, rfl, hm69⟩

/-! ### backstitch/shape.May -/
noncomputable def shape_May.f (x0 : (List Int)) : Option Bool :=
  (shape_Size.f x0).bind fun r3 =>
  if r3.2 = 0 then (some true)
  else (some false)
set_option maxRecDepth 100000 in
set_option maxHeartbeats 4000000 in
theorem shape_May.calls (M : List (Option Nat)) (w0 : World) (x0 : (List Int)) (A0 : Option Addr) (n0 c0 : Nat) (e0 : n0 = x0.length) (hm0 : Mem [] M w0 [.sl (Kd.int .i64) A0 c0 x0] w0) (r : Bool) (H0 : shape_May.f x0 = some r) :
    Calls Try.prog 19 [.slice A0 n0 c0].toArray w0 (fun x w' => ∃ v, x = .returned v ∧ v = .bool r ∧ Mem [] M w0 [] w') := by
  subst e0
  unfold shape_May.f at H0
  refine enter (n := 12) Try.func19 rfl rfl (by kernel_rfl) fun a0 (hf0 : Fr 12 a0 [(0, .slice A0 x0.length c0)]) => ?_
  refine wp_seq ?_
  refine reg [] [0] [(0, .slice A0 x0.length c0)] [] hf0 (by kernel_rfl) trivial fun a1 hf2 => ?_
  refine thenN ?_
  refine wp_seq ?_
  obtain ⟨r3, hr3, H0⟩ := ob_split H0
  refine inReg ?_
  refine go 1 [] [6] [(6, .slice A0 x0.length c0)] [] hf2 (by kernel_rfl) trivial fun a4 hf5 => ?_
  refine listOf hf5 rfl (by kernel_rfl) (aCall (fid := 15) (args := [.slice A0 x0.length c0]) (d := 7) hf5 (by kernel_rfl) (by kernel_rfl) callable15 (shape_Size.calls _ _ x0 A0 x0.length c0 rfl (hm0.give [0] [.sl (Kd.int .i64) A0 c0 x0] rfl rfl) r3 hr3) ?_)
  rintro _ w6 a7 ⟨rfl, hk9⟩ hf8
  have hm10 : Mem [] M w0 [.sl (Kd.int .i64) A0 c0 x0] w6 := hm0.still hk9.cum.none
  refine go 5 [] [4] [(4, .int .i64 r3.2)] [] hf8 (by kernel_rfl) trivial fun a11 hf12 => ?_
  refine endL rfl ?_
  have hm13 : Mem [] M w0 [] w6 := hm10.sel [] _ rfl (by kernel_rfl)
  refine thenN ?_
  refine wp_seq ?_
  rcases if_split H0 with ⟨c14, H0⟩ | ⟨c14, H0⟩
  · refine reg [.bool true] [2] [(2, .bool true)] [.is (((r3.2 : Int) == 0) = true)] hf12 (by kernel_rfl) ⟨(eqT c14), trivial⟩ fun a15 hf16 => ?_
    refine thenN ?_
    refine wp_ret ?_
    have hm17 : Mem [] M w0 [] w6 := hm13.sel [] _ rfl (by kernel_rfl)
    obtain rfl := Option.some.inj H0
    refine ret [] [.bool true] [] hf16 (by kernel_rfl) trivial ?_
    exact ⟨_, rfl, rfl, hm17⟩
  · refine reg [.bool false] [2] [(2, .bool false)] [.is (((r3.2 : Int) == 0) = false)] hf12 (by kernel_rfl) ⟨(eqF c14), trivial⟩ fun a19 hf20 => ?_
    refine thenN ?_
    refine wp_ret ?_
    have hm21 : Mem [] M w0 [] w6 := hm13.sel [] _ rfl (by kernel_rfl)
    obtain rfl := Option.some.inj H0
    refine ret [] [.bool false] [] hf20 (by kernel_rfl) trivial ?_
    exact ⟨_, rfl, rfl, hm21⟩

/-! ### backstitch/shape.number -/
noncomputable def shape_number.f (x0 : (List Int)) (x1 : Int) : Option Int :=
  if (x0.length : Int) ≤ x1 then (some 1)
  else (if 0 ≤ (w64 ((w64 ((x0.length : Int) - 1)) - x1)) ∧ (w64 ((w64 ((x0.length : Int) - 1)) - x1)) < (x0.length : Int) then (some (rd x0 (w64 ((w64 ((x0.length : Int) - 1)) - x1))))
  else none)
set_option maxRecDepth 100000 in
set_option maxHeartbeats 4000000 in
theorem shape_number.calls (M : List (Option Nat)) (w0 : World) (x0 : (List Int)) (A0 : Option Addr) (n0 c0 : Nat) (e0 : n0 = x0.length) (x1 : Int) (hm0 : Mem [] M w0 [.sl (Kd.int .i64) A0 c0 x0] w0) (r : Int) (H0 : shape_number.f x0 x1 = some r) :
    Calls Try.prog 26 [.slice A0 n0 c0, .int .i64 x1].toArray w0 (fun x w' => ∃ v, x = .returned v ∧ v = .int .i64 r ∧ Mem [] M w0 [] w') := by
  subst e0
  unfold shape_number.f at H0
  refine enter (n := 17) Try.func26 rfl rfl (by kernel_rfl) fun a0 (hf0 : Fr 17 a0 [(0, .slice A0 x0.length c0), (1, .int .i64 x1)]) => ?_
  refine wp_seq ?_
  refine reg [] [0, 1] [(0, .slice A0 x0.length c0), (1, .int .i64 x1)] [] hf0 (by kernel_rfl) trivial fun a1 hf2 => ?_
  refine thenN ?_
  refine wp_seq ?_
  refine wp_seq ?_
  rcases if_split H0 with ⟨c3, H0⟩ | ⟨c3, H0⟩
  · refine reg [.bool true] [0, 1, 8] [(0, .slice A0 x0.length c0), (1, .int .i64 x1), (8, .bool true)] [.is (decide ((x0.length : Int) ≤ x1) = true)] hf2 (by kernel_rfl) ⟨(decide_eq_true c3), trivial⟩ fun a4 hf5 => ?_
    refine thenN ?_
    refine condT hf5 (by kernel_rfl) ?_
    refine wp_seq ?_
    refine reg [] [4] [(4, .int .i64 1)] [] hf5 (by kernel_rfl) trivial fun a6 hf7 => ?_
    have hm8 : Mem [] M w0 [] w0 := hm0.sel [] _ rfl (by kernel_rfl)
    refine thenN ?_
    refine wp_ret ?_
    refine thenR ?_
    have hm9 : Mem [] M w0 [] w0 := hm8.sel [] _ rfl (by kernel_rfl)
    obtain rfl := Option.some.inj H0
    refine ret [] [.int .i64 1] [] hf7 (by kernel_rfl) trivial ?_
    exact ⟨_, rfl, rfl, hm9⟩
  · refine reg [.bool false] [0, 1, 8] [(0, .slice A0 x0.length c0), (1, .int .i64 x1), (8, .bool false)] [.is (decide ((x0.length : Int) ≤ x1) = false)] hf2 (by kernel_rfl) ⟨(decide_eq_false c3), trivial⟩ fun a11 hf12 => ?_
    refine thenN ?_
    refine condF hf12 (by kernel_rfl) ?_
    refine wp_skip ?_
    refine thenN ?_
    refine wp_seq ?_
    obtain ⟨g13, H0⟩ := if_guard H0
    have q14 := (hm0.slAt 0 rfl).int (w64 ((w64 ((x0.length : Int) - 1)) - x1)) g13.1 g13.2
    refine reg [.int .i64 (rd x0 (w64 ((w64 ((x0.length : Int) - 1)) - x1)))] [4] [(4, .int .i64 (rd x0 (w64 ((w64 ((x0.length : Int) - 1)) - x1))))] [.is (Option.isSome A0 = true), .is (0 ≤ (w64 ((w64 ((x0.length : Int) - 1)) - x1)) ∧ (w64 ((w64 ((x0.length : Int) - 1)) - x1)) < (x0.length : Int)), .cell ((ad A0).add (((w64 ((w64 ((x0.length : Int) - 1)) - x1))).toNat * 1)) (.int .i64 (rd x0 (w64 ((w64 ((x0.length : Int) - 1)) - x1))))] hf12 (by kernel_rfl) ⟨q14.1, g13, q14.2, trivial⟩ fun a15 hf16 => ?_
    have hm17 : Mem [] M w0 [] w0 := hm0.sel [] _ rfl (by kernel_rfl)
    refine thenN ?_
    refine wp_ret ?_
    have hm18 : Mem [] M w0 [] w0 := hm17.sel [] _ rfl (by kernel_rfl)
    obtain rfl := Option.some.inj H0
    refine ret [] [.int .i64 (rd x0 (w64 ((w64 ((x0.length : Int) - 1)) - x1)))] [] hf16 (by kernel_rfl) trivial ?_
    exact ⟨_, rfl, rfl, hm18⟩

/-! ### backstitch/shape.Spread -/
noncomputable def shape_Spread.l0 (x1 : (List Int)) (x0 : (List Int)) (s39 : (Int × (List Int))) : Step (Int × (List Int)) (Out2 (Int × (List Int)) ((List Int) × Int)) :=
  if s39.1 < (((List.replicate ((if (x1.length : Int) > (x0.length : Int) then (x1.length : Int) else (x0.length : Int))).toNat (0 : Int)).length : Nat) : Int) then (bindS (shape_number.f x0 s39.1) fun r51 =>
  bindS (shape_number.f x1 s39.1) fun r52 =>
  if r51 = r52 then (if 0 ≤ (w64 ((w64 ((s39.2.length : Int) - 1)) - s39.1)) ∧ (w64 ((w64 ((s39.2.length : Int) - 1)) - s39.1)) < (s39.2.length : Int) then (.next ((w64 (s39.1 + 1)), (put s39.2 (w64 ((w64 ((s39.2.length : Int) - 1)) - s39.1)) (if r52 > r51 then r52 else r51))))
  else .bad)
  else (if r51 = 1 then (if 0 ≤ (w64 ((w64 ((s39.2.length : Int) - 1)) - s39.1)) ∧ (w64 ((w64 ((s39.2.length : Int) - 1)) - s39.1)) < (s39.2.length : Int) then (.next ((w64 (s39.1 + 1)), (put s39.2 (w64 ((w64 ((s39.2.length : Int) - 1)) - s39.1)) (if r52 > r51 then r52 else r51))))
  else .bad)
  else (if r52 = 1 then (if 0 ≤ (w64 ((w64 ((s39.2.length : Int) - 1)) - s39.1)) ∧ (w64 ((w64 ((s39.2.length : Int) - 1)) - s39.1)) < (s39.2.length : Int) then (.next ((w64 (s39.1 + 1)), (put s39.2 (w64 ((w64 ((s39.2.length : Int) - 1)) - s39.1)) (if r52 > r51 then r52 else r51))))
  else .bad)
  else (.done (.ret (([] : (List Int)), 2))))))
  else (.done (.go (s39.1, s39.2)))
noncomputable def shape_Spread.f (x0 : (List Int)) (x1 : (List Int)) : Option ((List Int) × Int) :=
  (shape_May.f x0).bind fun r3 =>
  if r3 = true then ((shape_May.f x1).bind fun r5 =>
  if r5 = true then (if 0 ≤ (if (x1.length : Int) > (x0.length : Int) then (x1.length : Int) else (x0.length : Int)) ∧ (if (x1.length : Int) > (x0.length : Int) then (x1.length : Int) else (x0.length : Int)) ≤ 1099511627776 then ((loop (shape_Spread.l0 x1 x0) (0, (List.replicate ((if (x1.length : Int) > (x0.length : Int) then (x1.length : Int) else (x0.length : Int))).toNat (0 : Int)))).bind fun r40 =>
  r40.on (fun yr40 =>
  (shape_Size.f yr40.2).bind fun r128 =>
  if r128.2 = 0 then (some (yr40.2, 0))
  else (some (([] : (List Int)), r128.2))) (fun y => some y))
  else none)
  else (some (([] : (List Int)), 2)))
  else (some (([] : (List Int)), 2))
set_option maxRecDepth 100000 in
set_option maxHeartbeats 4000000 in
theorem shape_Spread.calls (M : List (Option Nat)) (w0 : World) (x0 : (List Int)) (A0 : Option Addr) (n0 c0 : Nat) (e0 : n0 = x0.length) (x1 : (List Int)) (A1 : Option Addr) (n1 c1 : Nat) (e1 : n1 = x1.length) (hm0 : Mem [] M w0 [.sl (Kd.int .i64) A0 c0 x0, .sl (Kd.int .i64) A1 c1 x1] w0) (r : ((List Int) × Int)) (H0 : shape_Spread.f x0 x1 = some r) :
    Calls Try.prog 10 [.slice A0 n0 c0, .slice A1 n1 c1].toArray w0 (fun x w' => ∃ v, x = .returned v ∧ ∃ Ar0 cr0, v = .tuple #[.slice Ar0 r.1.length cr0, .int .i64 r.2] ∧ Mem [] M w0 [.ow (Kd.int .i64) 3 Ar0 cr0 r.1] w') := by
  subst e0
  subst e1
  unfold shape_Spread.f at H0
  refine enter (n := 68) Try.func10 rfl rfl (by kernel_rfl) fun a0 (hf0 : Fr 68 a0 [(0, .slice A0 x0.length c0), (1, .slice A1 x1.length c1)]) => ?_
  refine wp_seq ?_
  refine reg [] [0, 1] [(0, .slice A0 x0.length c0), (1, .slice A1 x1.length c1)] [] hf0 (by kernel_rfl) trivial fun a1 hf2 => ?_
  refine thenN ?_
  refine wp_seq ?_
  refine wp_seq ?_
  obtain ⟨r3, hr3, H0⟩ := ob_split H0
  rcases ifb_split H0 with ⟨c4, H0⟩ | ⟨c4, H0⟩
  · obtain ⟨r5, hr5, H0⟩ := ob_split H0
    rcases ifb_split H0 with ⟨c6, H0⟩ | ⟨c6, H0⟩
    · refine inReg ?_
      refine go 1 [] [0, 1, 12] [(0, .slice A0 x0.length c0), (1, .slice A1 x1.length c1), (12, .slice A0 x0.length c0)] [] hf2 (by kernel_rfl) trivial fun a7 hf8 => ?_
      refine listOf hf8 rfl (by kernel_rfl) (aCall (fid := 19) (args := [.slice A0 x0.length c0]) (d := 13) hf8 (by kernel_rfl) (by kernel_rfl) callable19 (shape_May.calls _ _ x0 A0 x0.length c0 rfl (hm0.give [0] [.sl (Kd.int .i64) A0 c0 x0] rfl rfl) r3 hr3) ?_)
      rintro _ w9 a10 ⟨rfl, hk12⟩ hf11
      have hm13 : Mem [] M w0 [.sl (Kd.int .i64) A0 c0 x0, .sl (Kd.int .i64) A1 c1 x1] w9 := hm0.still hk12.cum.none
      rw [c4] at hf11
      refine go 3 [] [0, 1, 15, 16] [(0, .slice A0 x0.length c0), (1, .slice A1 x1.length c1), (15, .bool false), (16, .slice A1 x1.length c1)] [] hf11 (by kernel_rfl) trivial fun a14 hf15 => ?_
      refine listOf hf15 rfl (by kernel_rfl) (aCall (fid := 19) (args := [.slice A1 x1.length c1]) (d := 17) hf15 (by kernel_rfl) (by kernel_rfl) callable19 (shape_May.calls _ _ x1 A1 x1.length c1 rfl (hm13.give [1] [.sl (Kd.int .i64) A1 c1 x1] rfl rfl) r5 hr5) ?_)
      rintro _ w16 a17 ⟨rfl, hk19⟩ hf18
      have hm20 : Mem [] M w0 [.sl (Kd.int .i64) A0 c0 x0, .sl (Kd.int .i64) A1 c1 x1] w16 := hm13.still hk19.cum.none
      rw [c6] at hf18
      refine go 2 [] [0, 1, 19] [(0, .slice A0 x0.length c0), (1, .slice A1 x1.length c1), (19, .bool false)] [] hf18 (by kernel_rfl) trivial fun a21 hf22 => ?_
      refine endL rfl ?_
      refine thenN ?_
      refine condF hf22 (by kernel_rfl) ?_
      refine wp_skip ?_
      refine thenN ?_
      refine wp_seq ?_
      obtain ⟨g23, H0⟩ := if_guard H0
      refine inReg ?_
      refine go 5 [] [0, 1, 24] [(0, .slice A0 x0.length c0), (1, .slice A1 x1.length c1), (24, .int .i64 (if (x1.length : Int) > (x0.length : Int) then (x1.length : Int) else (x0.length : Int)))] [] hf22 (by kernel_rfl) trivial fun a24 hf25 => ?_
      refine listOf hf25 rfl (by kernel_rfl) (aMake (kd := (Kd.int .i64)) (x := 0) (E := 3) (L := (if (x1.length : Int) > (x0.length : Int) then (x1.length : Int) else (x0.length : Int))) (z := [.int .i64 0]) (sz := 1) (d := 25) hf25 (by kernel_rfl) (by kernel_rfl) rfl (fun _ _ => rfl) g23.1 g23.2 ?_)
      intro A26 c27 w28 a29 ho31 hb33 hg32 hf30
      have hm34 : Mem [] M w0 [.ow (Kd.int .i64) 3 A26 c27 (List.replicate ((if (x1.length : Int) > (x0.length : Int) then (x1.length : Int) else (x0.length : Int))).toNat (0 : Int)), .sl (Kd.int .i64) A0 c0 x0, .sl (Kd.int .i64) A1 c1 x1] w28 := hm20.own (ho31 _) hg32
      refine go 1 [] [0, 1, 6] [(0, .slice A0 x0.length c0), (1, .slice A1 x1.length c1), (6, .slice A26 ((List.replicate ((if (x1.length : Int) > (x0.length : Int) then (x1.length : Int) else (x0.length : Int))).toNat (0 : Int)).length) c27)] [] hf30 (by kernel_rfl) trivial fun a35 hf36 => ?_
      refine endL rfl ?_
      refine thenN ?_
      refine wp_seq ?_
      refine wp_seq ?_
      refine reg [] [0, 1, 6, 27, 28] [(0, .slice A0 x0.length c0), (1, .slice A1 x1.length c1), (6, .slice A26 ((List.replicate ((if (x1.length : Int) > (x0.length : Int) then (x1.length : Int) else (x0.length : Int))).toNat (0 : Int)).length) c27), (27, .int .i64 (((List.replicate ((if (x1.length : Int) > (x0.length : Int) then (x1.length : Int) else (x0.length : Int))).toNat (0 : Int)).length : Nat) : Int)), (28, .int .i64 0)] [] hf36 (by kernel_rfl) trivial fun a37 hf38 => ?_
      refine thenN ?_
      obtain ⟨r40, hr40, H0⟩ := ob_split H0
      refine wpBlock (Mid := fun (a : Act) (w : World) => ∃ yr40 : (Int × (List Int)), r40 = .go yr40 ∧ Fr 68 a [(0, .slice A0 x0.length c0), (1, .slice A1 x1.length c1), (6, .slice A26 yr40.2.length c27), (27, .int .i64 (((List.replicate ((if (x1.length : Int) > (x0.length : Int) then (x1.length : Int) else (x0.length : Int))).toNat (0 : Int)).length : Nat) : Int)), (28, .int .i64 yr40.1)] ∧ Mem [] M w0 [.ow (Kd.int .i64) 3 A26 c27 yr40.2, .sl (Kd.int .i64) A0 c0 x0, .sl (Kd.int .i64) A1 c1 x1] w) ?_ ?_
      · refine wpLoop (shape_Spread.l0 x1 x0) r40 (fun (s39 : (Int × (List Int))) (a : Act) (w : World) => Fr 68 a [(0, .slice A0 x0.length c0), (1, .slice A1 x1.length c1), (6, .slice A26 s39.2.length c27), (27, .int .i64 (((List.replicate ((if (x1.length : Int) > (x0.length : Int) then (x1.length : Int) else (x0.length : Int))).toNat (0 : Int)).length : Nat) : Int)), (28, .int .i64 s39.1)] ∧ Mem [] M w0 [.ow (Kd.int .i64) 3 A26 c27 s39.2, .sl (Kd.int .i64) A0 c0 x0, .sl (Kd.int .i64) A1 c1 x1] w) (0, (List.replicate ((if (x1.length : Int) > (x0.length : Int) then (x1.length : Int) else (x0.length : Int))).toNat (0 : Int))) hr40 ⟨hf38.sel (l := [0, 1, 6, 27, 28]) (by kernel_rfl), hm34.sel [0, 1, 2] _ rfl (by kernel_rfl)⟩ ?_
        rintro g41 s39 a42 w43 H1 ⟨hf44, hm45⟩
        unfold shape_Spread.l0 at H1
        refine wp_seq ?_
        rcases ifS_split H1 with ⟨c46, H1⟩ | ⟨c46, H1⟩
        · refine reg [.bool true] [0, 1, 6, 27, 28, 29] [(0, .slice A0 x0.length c0), (1, .slice A1 x1.length c1), (6, .slice A26 s39.2.length c27), (27, .int .i64 (((List.replicate ((if (x1.length : Int) > (x0.length : Int) then (x1.length : Int) else (x0.length : Int))).toNat (0 : Int)).length : Nat) : Int)), (28, .int .i64 s39.1), (29, .bool true)] [.is (decide (s39.1 < (((List.replicate ((if (x1.length : Int) > (x0.length : Int) then (x1.length : Int) else (x0.length : Int))).toNat (0 : Int)).length : Nat) : Int)) = true)] hf44 (by kernel_rfl) ⟨(decide_eq_true c46), trivial⟩ fun a47 hf48 => ?_
          refine thenN ?_
          refine wp_seq ?_
          refine condT hf48 (by kernel_rfl) ?_
          refine wp_skip ?_
          refine thenN ?_
          refine wp_seq ?_
          refine wp_block ?_
          refine wp_seq ?_
          refine reg [] [0, 1, 6, 7, 27, 28] [(0, .slice A0 x0.length c0), (1, .slice A1 x1.length c1), (6, .slice A26 s39.2.length c27), (7, .int .i64 s39.1), (27, .int .i64 (((List.replicate ((if (x1.length : Int) > (x0.length : Int) then (x1.length : Int) else (x0.length : Int))).toNat (0 : Int)).length : Nat) : Int)), (28, .int .i64 s39.1)] [] hf48 (by kernel_rfl) trivial fun a49 hf50 => ?_
          refine thenN ?_
          refine wp_seq ?_
          obtain ⟨r51, hr51, H1⟩ := obS_split H1
          obtain ⟨r52, hr52, H1⟩ := obS_split H1
          refine inReg ?_
          refine go 2 [] [0, 1, 6, 7, 27, 28, 31, 32] [(0, .slice A0 x0.length c0), (1, .slice A1 x1.length c1), (6, .slice A26 s39.2.length c27), (7, .int .i64 s39.1), (27, .int .i64 (((List.replicate ((if (x1.length : Int) > (x0.length : Int) then (x1.length : Int) else (x0.length : Int))).toNat (0 : Int)).length : Nat) : Int)), (28, .int .i64 s39.1), (31, .slice A0 x0.length c0), (32, .int .i64 s39.1)] [] hf50 (by kernel_rfl) trivial fun a53 hf54 => ?_
          refine listOf hf54 rfl (by kernel_rfl) (aCall (fid := 26) (args := [.slice A0 x0.length c0, .int .i64 s39.1]) (d := 33) hf54 (by kernel_rfl) (by kernel_rfl) callable26 (shape_number.calls _ _ x0 A0 x0.length c0 rfl s39.1 (hm45.give [1] [.sl (Kd.int .i64) A0 c0 x0] rfl rfl) r51 hr51) ?_)
          rintro _ w55 a56 ⟨rfl, hk58⟩ hf57
          have hm59 : Mem [] M w0 [.ow (Kd.int .i64) 3 A26 c27 s39.2, .sl (Kd.int .i64) A0 c0 x0, .sl (Kd.int .i64) A1 c1 x1] w55 := hm45.still hk58.cum.none
          refine go 2 [] [0, 1, 6, 7, 27, 28, 33, 34, 35] [(0, .slice A0 x0.length c0), (1, .slice A1 x1.length c1), (6, .slice A26 s39.2.length c27), (7, .int .i64 s39.1), (27, .int .i64 (((List.replicate ((if (x1.length : Int) > (x0.length : Int) then (x1.length : Int) else (x0.length : Int))).toNat (0 : Int)).length : Nat) : Int)), (28, .int .i64 s39.1), (33, .int .i64 r51), (34, .slice A1 x1.length c1), (35, .int .i64 s39.1)] [] hf57 (by kernel_rfl) trivial fun a60 hf61 => ?_
          refine listOf hf61 rfl (by kernel_rfl) (aCall (fid := 26) (args := [.slice A1 x1.length c1, .int .i64 s39.1]) (d := 36) hf61 (by kernel_rfl) (by kernel_rfl) callable26 (shape_number.calls _ _ x1 A1 x1.length c1 rfl s39.1 (hm59.give [2] [.sl (Kd.int .i64) A1 c1 x1] rfl rfl) r52 hr52) ?_)
          rintro _ w62 a63 ⟨rfl, hk65⟩ hf64
          have hm66 : Mem [] M w0 [.ow (Kd.int .i64) 3 A26 c27 s39.2, .sl (Kd.int .i64) A0 c0 x0, .sl (Kd.int .i64) A1 c1 x1] w62 := hm59.still hk65.cum.none
          refine go 2 [] [0, 1, 6, 7, 8, 9, 27, 28] [(0, .slice A0 x0.length c0), (1, .slice A1 x1.length c1), (6, .slice A26 s39.2.length c27), (7, .int .i64 s39.1), (8, .int .i64 r51), (9, .int .i64 r52), (27, .int .i64 (((List.replicate ((if (x1.length : Int) > (x0.length : Int) then (x1.length : Int) else (x0.length : Int))).toNat (0 : Int)).length : Nat) : Int)), (28, .int .i64 s39.1)] [] hf64 (by kernel_rfl) trivial fun a67 hf68 => ?_
          refine endL rfl ?_
          refine thenN ?_
          refine wp_seq ?_
          refine wp_seq ?_
          rcases ifS_split H1 with ⟨c69, H1⟩ | ⟨c69, H1⟩
          · refine reg [.bool false] [0, 1, 6, 7, 8, 9, 27, 28, 47] [(0, .slice A0 x0.length c0), (1, .slice A1 x1.length c1), (6, .slice A26 s39.2.length c27), (7, .int .i64 s39.1), (8, .int .i64 r51), (9, .int .i64 r52), (27, .int .i64 (((List.replicate ((if (x1.length : Int) > (x0.length : Int) then (x1.length : Int) else (x0.length : Int))).toNat (0 : Int)).length : Nat) : Int)), (28, .int .i64 s39.1), (47, .bool false)] [.is (((r51 : Int) != r52) = false)] hf68 (by kernel_rfl) ⟨(neF c69), trivial⟩ fun a70 hf71 => ?_
            refine thenN ?_
            refine condF hf71 (by kernel_rfl) ?_
            refine wp_skip ?_
            refine thenN ?_
            obtain ⟨g72, H1⟩ := ifS_guard H1
            have q73 := (hm66.owAt 0 rfl).int (w64 ((w64 ((s39.2.length : Int) - 1)) - s39.1)) g72.1 g72.2
            refine inReg ?_
            refine go 10 [] [0, 1, 6, 27, 28, 56, 57] [(0, .slice A0 x0.length c0), (1, .slice A1 x1.length c1), (6, .slice A26 s39.2.length c27), (27, .int .i64 (((List.replicate ((if (x1.length : Int) > (x0.length : Int) then (x1.length : Int) else (x0.length : Int))).toNat (0 : Int)).length : Nat) : Int)), (28, .int .i64 s39.1), (56, .int .i64 (if r52 > r51 then r52 else r51)), (57, .pointer (some ((ad A26).add (((w64 ((w64 ((s39.2.length : Int) - 1)) - s39.1))).toNat * 1))))] [.is (Option.isSome A26 = true), .is (0 ≤ (w64 ((w64 ((s39.2.length : Int) - 1)) - s39.1)) ∧ (w64 ((w64 ((s39.2.length : Int) - 1)) - s39.1)) < (s39.2.length : Int))] hf71 (by kernel_rfl) ⟨q73.1, g72, trivial⟩ fun a74 hf75 => ?_
            refine listOf hf75 rfl (by kernel_rfl) (aStoreO (kd := (Kd.int .i64)) (base := 0) (E := 3) (A := A26) (c := c27) (xs := s39.2) (i := (w64 ((w64 ((s39.2.length : Int) - 1)) - s39.1))) (x := (if r52 > r51 then r52 else r51)) (us := [.int .i64 (if r52 > r51 then r52 else r51)]) (sz := 1) hf75 (by kernel_rfl) rfl (by kernel_rfl) (hm66.at 0 rfl) rfl g72.1 g72.2 ?_)
            intro w76 hx77 hg78
            have hm79 : Mem [] M w0 [.ow (Kd.int .i64) 3 A26 c27 (put s39.2 (w64 ((w64 ((s39.2.length : Int) - 1)) - s39.1)) (if r52 > r51 then r52 else r51)), .sl (Kd.int .i64) A0 c0 x0, .sl (Kd.int .i64) A1 c1 x1] w76 := hm66.setOwn 0 _ rfl rfl hx77 hg78 (.inl rfl)
            refine endL rfl ?_
            refine blkN ?_
            refine thenN ?_
            refine reg [] [0, 1, 6, 27, 28] [(0, .slice A0 x0.length c0), (1, .slice A1 x1.length c1), (6, .slice A26 s39.2.length c27), (27, .int .i64 (((List.replicate ((if (x1.length : Int) > (x0.length : Int) then (x1.length : Int) else (x0.length : Int))).toNat (0 : Int)).length : Nat) : Int)), (28, .int .i64 (w64 (s39.1 + 1)))] [] hf75 (by kernel_rfl) trivial fun a80 hf81 => ?_
            have hf82 : Fr 68 a80 [(0, .slice A0 x0.length c0), (1, .slice A1 x1.length c1), (6, .slice A26 s39.2.length c27), (27, .int .i64 (((List.replicate ((if (x1.length : Int) > (x0.length : Int) then (x1.length : Int) else (x0.length : Int))).toNat (0 : Int)).length : Nat) : Int)), (28, .int .i64 (w64 (s39.1 + 1)))] := hf81.sel (l := [0, 1, 6, 27, 28]) (by kernel_rfl)
            have hm83 : Mem [] M w0 [.ow (Kd.int .i64) 3 A26 c27 (put s39.2 (w64 ((w64 ((s39.2.length : Int) - 1)) - s39.1)) (if r52 > r51 then r52 else r51)), .sl (Kd.int .i64) A0 c0 x0, .sl (Kd.int .i64) A1 c1 x1] w76 := hm79.sel [0, 1, 2] _ rfl (by kernel_rfl)
            exact ⟨((w64 (s39.1 + 1)), (put s39.2 (w64 ((w64 ((s39.2.length : Int) - 1)) - s39.1)) (if r52 > r51 then r52 else r51))), H1, (by simpa only [put_length] using hf82), (by simpa only [put_length] using hm83)⟩
          · rcases ifS_split H1 with ⟨c84, H1⟩ | ⟨c84, H1⟩
            · refine reg [.bool true, .bool false] [0, 1, 6, 7, 8, 9, 27, 28, 47] [(0, .slice A0 x0.length c0), (1, .slice A1 x1.length c1), (6, .slice A26 s39.2.length c27), (7, .int .i64 s39.1), (8, .int .i64 r51), (9, .int .i64 r52), (27, .int .i64 (((List.replicate ((if (x1.length : Int) > (x0.length : Int) then (x1.length : Int) else (x0.length : Int))).toNat (0 : Int)).length : Nat) : Int)), (28, .int .i64 s39.1), (47, .bool false)] [.is (((r51 : Int) != r52) = true), .is (((r51 : Int) != 1) = false)] hf68 (by kernel_rfl) ⟨(neT c69), (neF c84), trivial⟩ fun a85 hf86 => ?_
              refine thenN ?_
              refine condF hf86 (by kernel_rfl) ?_
              refine wp_skip ?_
              refine thenN ?_
              obtain ⟨g87, H1⟩ := ifS_guard H1
              have q88 := (hm66.owAt 0 rfl).int (w64 ((w64 ((s39.2.length : Int) - 1)) - s39.1)) g87.1 g87.2
              refine inReg ?_
              refine go 10 [] [0, 1, 6, 27, 28, 56, 57] [(0, .slice A0 x0.length c0), (1, .slice A1 x1.length c1), (6, .slice A26 s39.2.length c27), (27, .int .i64 (((List.replicate ((if (x1.length : Int) > (x0.length : Int) then (x1.length : Int) else (x0.length : Int))).toNat (0 : Int)).length : Nat) : Int)), (28, .int .i64 s39.1), (56, .int .i64 (if r52 > r51 then r52 else r51)), (57, .pointer (some ((ad A26).add (((w64 ((w64 ((s39.2.length : Int) - 1)) - s39.1))).toNat * 1))))] [.is (Option.isSome A26 = true), .is (0 ≤ (w64 ((w64 ((s39.2.length : Int) - 1)) - s39.1)) ∧ (w64 ((w64 ((s39.2.length : Int) - 1)) - s39.1)) < (s39.2.length : Int))] hf86 (by kernel_rfl) ⟨q88.1, g87, trivial⟩ fun a89 hf90 => ?_
              refine listOf hf90 rfl (by kernel_rfl) (aStoreO (kd := (Kd.int .i64)) (base := 0) (E := 3) (A := A26) (c := c27) (xs := s39.2) (i := (w64 ((w64 ((s39.2.length : Int) - 1)) - s39.1))) (x := (if r52 > r51 then r52 else r51)) (us := [.int .i64 (if r52 > r51 then r52 else r51)]) (sz := 1) hf90 (by kernel_rfl) rfl (by kernel_rfl) (hm66.at 0 rfl) rfl g87.1 g87.2 ?_)
              intro w91 hx92 hg93
              have hm94 : Mem [] M w0 [.ow (Kd.int .i64) 3 A26 c27 (put s39.2 (w64 ((w64 ((s39.2.length : Int) - 1)) - s39.1)) (if r52 > r51 then r52 else r51)), .sl (Kd.int .i64) A0 c0 x0, .sl (Kd.int .i64) A1 c1 x1] w91 := hm66.setOwn 0 _ rfl rfl hx92 hg93 (.inl rfl)
              refine endL rfl ?_
              refine blkN ?_
              refine thenN ?_
              refine reg [] [0, 1, 6, 27, 28] [(0, .slice A0 x0.length c0), (1, .slice A1 x1.length c1), (6, .slice A26 s39.2.length c27), (27, .int .i64 (((List.replicate ((if (x1.length : Int) > (x0.length : Int) then (x1.length : Int) else (x0.length : Int))).toNat (0 : Int)).length : Nat) : Int)), (28, .int .i64 (w64 (s39.1 + 1)))] [] hf90 (by kernel_rfl) trivial fun a95 hf96 => ?_
              have hf97 : Fr 68 a95 [(0, .slice A0 x0.length c0), (1, .slice A1 x1.length c1), (6, .slice A26 s39.2.length c27), (27, .int .i64 (((List.replicate ((if (x1.length : Int) > (x0.length : Int) then (x1.length : Int) else (x0.length : Int))).toNat (0 : Int)).length : Nat) : Int)), (28, .int .i64 (w64 (s39.1 + 1)))] := hf96.sel (l := [0, 1, 6, 27, 28]) (by kernel_rfl)
              have hm98 : Mem [] M w0 [.ow (Kd.int .i64) 3 A26 c27 (put s39.2 (w64 ((w64 ((s39.2.length : Int) - 1)) - s39.1)) (if r52 > r51 then r52 else r51)), .sl (Kd.int .i64) A0 c0 x0, .sl (Kd.int .i64) A1 c1 x1] w91 := hm94.sel [0, 1, 2] _ rfl (by kernel_rfl)
              exact ⟨((w64 (s39.1 + 1)), (put s39.2 (w64 ((w64 ((s39.2.length : Int) - 1)) - s39.1)) (if r52 > r51 then r52 else r51))), H1, (by simpa only [put_length] using hf97), (by simpa only [put_length] using hm98)⟩
            · rcases ifS_split H1 with ⟨c99, H1⟩ | ⟨c99, H1⟩
              · refine reg [.bool true, .bool true, .bool false] [0, 1, 6, 7, 8, 9, 27, 28, 47] [(0, .slice A0 x0.length c0), (1, .slice A1 x1.length c1), (6, .slice A26 s39.2.length c27), (7, .int .i64 s39.1), (8, .int .i64 r51), (9, .int .i64 r52), (27, .int .i64 (((List.replicate ((if (x1.length : Int) > (x0.length : Int) then (x1.length : Int) else (x0.length : Int))).toNat (0 : Int)).length : Nat) : Int)), (28, .int .i64 s39.1), (47, .bool false)] [.is (((r51 : Int) != r52) = true), .is (((r51 : Int) != 1) = true), .is (((r52 : Int) != 1) = false)] hf68 (by kernel_rfl) ⟨(neT c69), (neT c84), (neF c99), trivial⟩ fun a100 hf101 => ?_
                refine thenN ?_
                refine condF hf101 (by kernel_rfl) ?_
                refine wp_skip ?_
                refine thenN ?_
                obtain ⟨g102, H1⟩ := ifS_guard H1
                have q103 := (hm66.owAt 0 rfl).int (w64 ((w64 ((s39.2.length : Int) - 1)) - s39.1)) g102.1 g102.2
                refine inReg ?_
                refine go 10 [] [0, 1, 6, 27, 28, 56, 57] [(0, .slice A0 x0.length c0), (1, .slice A1 x1.length c1), (6, .slice A26 s39.2.length c27), (27, .int .i64 (((List.replicate ((if (x1.length : Int) > (x0.length : Int) then (x1.length : Int) else (x0.length : Int))).toNat (0 : Int)).length : Nat) : Int)), (28, .int .i64 s39.1), (56, .int .i64 (if r52 > r51 then r52 else r51)), (57, .pointer (some ((ad A26).add (((w64 ((w64 ((s39.2.length : Int) - 1)) - s39.1))).toNat * 1))))] [.is (Option.isSome A26 = true), .is (0 ≤ (w64 ((w64 ((s39.2.length : Int) - 1)) - s39.1)) ∧ (w64 ((w64 ((s39.2.length : Int) - 1)) - s39.1)) < (s39.2.length : Int))] hf101 (by kernel_rfl) ⟨q103.1, g102, trivial⟩ fun a104 hf105 => ?_
                refine listOf hf105 rfl (by kernel_rfl) (aStoreO (kd := (Kd.int .i64)) (base := 0) (E := 3) (A := A26) (c := c27) (xs := s39.2) (i := (w64 ((w64 ((s39.2.length : Int) - 1)) - s39.1))) (x := (if r52 > r51 then r52 else r51)) (us := [.int .i64 (if r52 > r51 then r52 else r51)]) (sz := 1) hf105 (by kernel_rfl) rfl (by kernel_rfl) (hm66.at 0 rfl) rfl g102.1 g102.2 ?_)
                intro w106 hx107 hg108
                have hm109 : Mem [] M w0 [.ow (Kd.int .i64) 3 A26 c27 (put s39.2 (w64 ((w64 ((s39.2.length : Int) - 1)) - s39.1)) (if r52 > r51 then r52 else r51)), .sl (Kd.int .i64) A0 c0 x0, .sl (Kd.int .i64) A1 c1 x1] w106 := hm66.setOwn 0 _ rfl rfl hx107 hg108 (.inl rfl)
                refine endL rfl ?_
                refine blkN ?_
                refine thenN ?_
                refine reg [] [0, 1, 6, 27, 28] [(0, .slice A0 x0.length c0), (1, .slice A1 x1.length c1), (6, .slice A26 s39.2.length c27), (27, .int .i64 (((List.replicate ((if (x1.length : Int) > (x0.length : Int) then (x1.length : Int) else (x0.length : Int))).toNat (0 : Int)).length : Nat) : Int)), (28, .int .i64 (w64 (s39.1 + 1)))] [] hf105 (by kernel_rfl) trivial fun a110 hf111 => ?_
                have hf112 : Fr 68 a110 [(0, .slice A0 x0.length c0), (1, .slice A1 x1.length c1), (6, .slice A26 s39.2.length c27), (27, .int .i64 (((List.replicate ((if (x1.length : Int) > (x0.length : Int) then (x1.length : Int) else (x0.length : Int))).toNat (0 : Int)).length : Nat) : Int)), (28, .int .i64 (w64 (s39.1 + 1)))] := hf111.sel (l := [0, 1, 6, 27, 28]) (by kernel_rfl)
                have hm113 : Mem [] M w0 [.ow (Kd.int .i64) 3 A26 c27 (put s39.2 (w64 ((w64 ((s39.2.length : Int) - 1)) - s39.1)) (if r52 > r51 then r52 else r51)), .sl (Kd.int .i64) A0 c0 x0, .sl (Kd.int .i64) A1 c1 x1] w106 := hm109.sel [0, 1, 2] _ rfl (by kernel_rfl)
                exact ⟨((w64 (s39.1 + 1)), (put s39.2 (w64 ((w64 ((s39.2.length : Int) - 1)) - s39.1)) (if r52 > r51 then r52 else r51))), H1, (by simpa only [put_length] using hf112), (by simpa only [put_length] using hm113)⟩
              · refine reg [.bool true, .bool true, .bool true] [0, 1, 6, 7, 8, 9, 27, 28, 47] [(0, .slice A0 x0.length c0), (1, .slice A1 x1.length c1), (6, .slice A26 s39.2.length c27), (7, .int .i64 s39.1), (8, .int .i64 r51), (9, .int .i64 r52), (27, .int .i64 (((List.replicate ((if (x1.length : Int) > (x0.length : Int) then (x1.length : Int) else (x0.length : Int))).toNat (0 : Int)).length : Nat) : Int)), (28, .int .i64 s39.1), (47, .bool true)] [.is (((r51 : Int) != r52) = true), .is (((r51 : Int) != 1) = true), .is (((r52 : Int) != 1) = true)] hf68 (by kernel_rfl) ⟨(neT c69), (neT c84), (neT c99), trivial⟩ fun a114 hf115 => ?_
                refine thenN ?_
                refine condT hf115 (by kernel_rfl) ?_
                refine wp_seq ?_
                refine reg [] [4, 5] [(4, .slice none 0 0), (5, .int .i64 2)] [] hf115 (by kernel_rfl) trivial fun a116 hf117 => ?_
                have hm118 : Mem [] M w0 [] w62 := hm66.sel [] _ rfl (by kernel_rfl)
                refine thenN ?_
                refine wp_ret ?_
                refine thenR ?_
                refine blkR ?_
                refine thenR ?_
                refine thenR ?_
                refine .inr ⟨rfl, ?_⟩
                refine thenR ?_
                have hm119 : Mem [] M w0 [.ow (Kd.int .i64) 3 none 0 ([] : (List Int))] w62 := hm118.nilOw (Kd.int .i64) 3
                have hm120 : Mem [] M w0 [.ow (Kd.int .i64) 3 none 0 ([] : (List Int))] w62 := hm119.sel [0] _ rfl (by kernel_rfl)
                obtain rfl := Option.some.inj H1
                obtain rfl := Option.some.inj H0
                refine ret [] [.slice none 0 0, .int .i64 2] [] hf117 (by kernel_rfl) trivial ?_
                exact ⟨_, rfl, none, 0, rfl, hm120⟩
        · refine reg [.bool false] [0, 1, 6, 27, 28, 29] [(0, .slice A0 x0.length c0), (1, .slice A1 x1.length c1), (6, .slice A26 s39.2.length c27), (27, .int .i64 (((List.replicate ((if (x1.length : Int) > (x0.length : Int) then (x1.length : Int) else (x0.length : Int))).toNat (0 : Int)).length : Nat) : Int)), (28, .int .i64 s39.1), (29, .bool false)] [.is (decide (s39.1 < (((List.replicate ((if (x1.length : Int) > (x0.length : Int) then (x1.length : Int) else (x0.length : Int))).toNat (0 : Int)).length : Nat) : Int)) = false)] hf44 (by kernel_rfl) ⟨(decide_eq_false c46), trivial⟩ fun a122 hf123 => ?_
          refine thenN ?_
          refine wp_seq ?_
          refine condF hf123 (by kernel_rfl) ?_
          refine wp_exit ?_
          refine thenE ?_
          refine thenE ?_
          obtain rfl := Option.some.inj H1
          exact .inl ⟨rfl, (s39.1, s39.2), rfl, hf123.sel (l := [0, 1, 6, 27, 28]) (by kernel_rfl), hm45.sel [0, 1, 2] _ rfl (by kernel_rfl)⟩
      rintro a124 w125 ⟨yr40, rfl, hf126, hm127⟩
      refine thenN ?_
      refine wp_seq ?_
      refine wp_seq ?_
      obtain ⟨r128, hr128, H0⟩ := ob_split H0
      refine inReg ?_
      refine go 1 [] [6, 60] [(6, .slice A26 yr40.2.length c27), (60, .slice A26 yr40.2.length c27)] [] hf126 (by kernel_rfl) trivial fun a129 hf130 => ?_
      have hm131 : Mem [] M w0 [.sl (Kd.int .i64) A26 c27 yr40.2, .sl (Kd.int .i64) A0 c0 x0, .sl (Kd.int .i64) A1 c1 x1] w125 := hm127.seal 0 _ rfl rfl
      refine listOf hf130 rfl (by kernel_rfl) (aCall (fid := 15) (args := [.slice A26 yr40.2.length c27]) (d := 61) hf130 (by kernel_rfl) (by kernel_rfl) callable15 (shape_Size.calls _ _ yr40.2 A26 yr40.2.length c27 rfl (hm131.give [0] [.sl (Kd.int .i64) A26 c27 yr40.2] rfl rfl) r128 hr128) ?_)
      rintro _ w132 a133 ⟨rfl, hk135⟩ hf134
      have hm136 : Mem [] M w0 [.ow (Kd.int .i64) 3 A26 c27 yr40.2, .sl (Kd.int .i64) A0 c0 x0, .sl (Kd.int .i64) A1 c1 x1] w132 := hm127.still hk135.cum.none
      refine go 5 [] [6, 11] [(6, .slice A26 yr40.2.length c27), (11, .int .i64 r128.2)] [] hf134 (by kernel_rfl) trivial fun a137 hf138 => ?_
      refine endL rfl ?_
      have hm139 : Mem [] M w0 [.ow (Kd.int .i64) 3 A26 c27 yr40.2] w132 := hm136.sel [0] _ rfl (by kernel_rfl)
      refine thenN ?_
      refine wp_seq ?_
      rcases if_split H0 with ⟨c140, H0⟩ | ⟨c140, H0⟩
      · refine reg [.bool false] [6, 11, 65] [(6, .slice A26 yr40.2.length c27), (11, .int .i64 r128.2), (65, .bool false)] [.is (((r128.2 : Int) != 0) = false)] hf138 (by kernel_rfl) ⟨(neF c140), trivial⟩ fun a141 hf142 => ?_
        refine thenN ?_
        refine condF hf142 (by kernel_rfl) ?_
        refine wp_skip ?_
        refine thenN ?_
        refine wp_seq ?_
        refine reg [] [4, 5] [(4, .slice A26 yr40.2.length c27), (5, .int .i64 0)] [] hf142 (by kernel_rfl) trivial fun a143 hf144 => ?_
        refine thenN ?_
        refine wp_ret ?_
        have hm145 : Mem [] M w0 [.ow (Kd.int .i64) 3 A26 c27 yr40.2] w132 := hm139.sel [0] _ rfl (by kernel_rfl)
        obtain rfl := Option.some.inj H0
        refine ret [] [.slice A26 yr40.2.length c27, .int .i64 0] [] hf144 (by kernel_rfl) trivial ?_
        exact ⟨_, rfl, A26, c27, rfl, hm145⟩
      · refine reg [.bool true] [6, 11, 65] [(6, .slice A26 yr40.2.length c27), (11, .int .i64 r128.2), (65, .bool true)] [.is (((r128.2 : Int) != 0) = true)] hf138 (by kernel_rfl) ⟨(neT c140), trivial⟩ fun a147 hf148 => ?_
        refine thenN ?_
        refine condT hf148 (by kernel_rfl) ?_
        refine wp_seq ?_
        refine reg [] [4, 5] [(4, .slice none 0 0), (5, .int .i64 r128.2)] [] hf148 (by kernel_rfl) trivial fun a149 hf150 => ?_
        have hm151 : Mem [] M w0 [] w132 := hm139.sel [] _ rfl (by kernel_rfl)
        refine thenN ?_
        refine wp_ret ?_
        refine thenR ?_
        have hm152 : Mem [] M w0 [.ow (Kd.int .i64) 3 none 0 ([] : (List Int))] w132 := hm151.nilOw (Kd.int .i64) 3
        have hm153 : Mem [] M w0 [.ow (Kd.int .i64) 3 none 0 ([] : (List Int))] w132 := hm152.sel [0] _ rfl (by kernel_rfl)
        obtain rfl := Option.some.inj H0
        refine ret [] [.slice none 0 0, .int .i64 r128.2] [] hf150 (by kernel_rfl) trivial ?_
        exact ⟨_, rfl, none, 0, rfl, hm153⟩
    · refine inReg ?_
      refine go 1 [] [0, 1, 12] [(0, .slice A0 x0.length c0), (1, .slice A1 x1.length c1), (12, .slice A0 x0.length c0)] [] hf2 (by kernel_rfl) trivial fun a155 hf156 => ?_
      refine listOf hf156 rfl (by kernel_rfl) (aCall (fid := 19) (args := [.slice A0 x0.length c0]) (d := 13) hf156 (by kernel_rfl) (by kernel_rfl) callable19 (shape_May.calls _ _ x0 A0 x0.length c0 rfl (hm0.give [0] [.sl (Kd.int .i64) A0 c0 x0] rfl rfl) r3 hr3) ?_)
      rintro _ w157 a158 ⟨rfl, hk160⟩ hf159
      have hm161 : Mem [] M w0 [.sl (Kd.int .i64) A0 c0 x0, .sl (Kd.int .i64) A1 c1 x1] w157 := hm0.still hk160.cum.none
      rw [c4] at hf159
      refine go 3 [] [0, 1, 15, 16] [(0, .slice A0 x0.length c0), (1, .slice A1 x1.length c1), (15, .bool false), (16, .slice A1 x1.length c1)] [] hf159 (by kernel_rfl) trivial fun a162 hf163 => ?_
      refine listOf hf163 rfl (by kernel_rfl) (aCall (fid := 19) (args := [.slice A1 x1.length c1]) (d := 17) hf163 (by kernel_rfl) (by kernel_rfl) callable19 (shape_May.calls _ _ x1 A1 x1.length c1 rfl (hm161.give [1] [.sl (Kd.int .i64) A1 c1 x1] rfl rfl) r5 hr5) ?_)
      rintro _ w164 a165 ⟨rfl, hk167⟩ hf166
      have hm168 : Mem [] M w0 [.sl (Kd.int .i64) A0 c0 x0, .sl (Kd.int .i64) A1 c1 x1] w164 := hm161.still hk167.cum.none
      rw [c6] at hf166
      refine go 2 [] [0, 1, 19] [(0, .slice A0 x0.length c0), (1, .slice A1 x1.length c1), (19, .bool true)] [] hf166 (by kernel_rfl) trivial fun a169 hf170 => ?_
      refine endL rfl ?_
      refine thenN ?_
      refine condT hf170 (by kernel_rfl) ?_
      refine wp_seq ?_
      refine reg [] [4, 5] [(4, .slice none 0 0), (5, .int .i64 2)] [] hf170 (by kernel_rfl) trivial fun a171 hf172 => ?_
      have hm173 : Mem [] M w0 [] w164 := hm168.sel [] _ rfl (by kernel_rfl)
      refine thenN ?_
      refine wp_ret ?_
      refine thenR ?_
      have hm174 : Mem [] M w0 [.ow (Kd.int .i64) 3 none 0 ([] : (List Int))] w164 := hm173.nilOw (Kd.int .i64) 3
      have hm175 : Mem [] M w0 [.ow (Kd.int .i64) 3 none 0 ([] : (List Int))] w164 := hm174.sel [0] _ rfl (by kernel_rfl)
      obtain rfl := Option.some.inj H0
      refine ret [] [.slice none 0 0, .int .i64 2] [] hf172 (by kernel_rfl) trivial ?_
      exact ⟨_, rfl, none, 0, rfl, hm175⟩
  · refine inReg ?_
    refine go 1 [] [0, 1, 12] [(0, .slice A0 x0.length c0), (1, .slice A1 x1.length c1), (12, .slice A0 x0.length c0)] [] hf2 (by kernel_rfl) trivial fun a177 hf178 => ?_
    refine listOf hf178 rfl (by kernel_rfl) (aCall (fid := 19) (args := [.slice A0 x0.length c0]) (d := 13) hf178 (by kernel_rfl) (by kernel_rfl) callable19 (shape_May.calls _ _ x0 A0 x0.length c0 rfl (hm0.give [0] [.sl (Kd.int .i64) A0 c0 x0] rfl rfl) r3 hr3) ?_)
    rintro _ w179 a180 ⟨rfl, hk182⟩ hf181
    have hm183 : Mem [] M w0 [.sl (Kd.int .i64) A0 c0 x0, .sl (Kd.int .i64) A1 c1 x1] w179 := hm0.still hk182.cum.none
    rw [c4] at hf181
    refine go 6 [] [0, 1, 19] [(0, .slice A0 x0.length c0), (1, .slice A1 x1.length c1), (19, .bool true)] [] hf181 (by kernel_rfl) trivial fun a184 hf185 => ?_
    refine endL rfl ?_
    refine thenN ?_
    refine condT hf185 (by kernel_rfl) ?_
    refine wp_seq ?_
    refine reg [] [4, 5] [(4, .slice none 0 0), (5, .int .i64 2)] [] hf185 (by kernel_rfl) trivial fun a186 hf187 => ?_
    have hm188 : Mem [] M w0 [] w179 := hm183.sel [] _ rfl (by kernel_rfl)
    refine thenN ?_
    refine wp_ret ?_
    refine thenR ?_
    have hm189 : Mem [] M w0 [.ow (Kd.int .i64) 3 none 0 ([] : (List Int))] w179 := hm188.nilOw (Kd.int .i64) 3
    have hm190 : Mem [] M w0 [.ow (Kd.int .i64) 3 none 0 ([] : (List Int))] w179 := hm189.sel [0] _ rfl (by kernel_rfl)
    obtain rfl := Option.some.inj H0
    refine ret [] [.slice none 0 0, .int .i64 2] [] hf187 (by kernel_rfl) trivial ?_
    exact ⟨_, rfl, none, 0, rfl, hm190⟩

/-! ### slices.Equal[[]int,int] -/
noncomputable def slices_Equal_int.l0 (x0 : (List Int)) (x1 : (List Int)) (s8 : Int) : Step Int (Out2 Int Bool) :=
  if s8 < (x0.length : Int) then (if 0 ≤ s8 ∧ s8 < (x0.length : Int) then (if 0 ≤ s8 ∧ s8 < (x1.length : Int) then (if (rd x0 s8) = (rd x1 s8) then (.next (w64 (s8 + 1)))
  else (.done (.ret false)))
  else .bad)
  else .bad)
  else (.done (.go s8))
noncomputable def slices_Equal_int.f (x0 : (List Int)) (x1 : (List Int)) : Option Bool :=
  if (x0.length : Int) = (x1.length : Int) then ((loop (slices_Equal_int.l0 x0 x1) 0).bind fun r9 =>
  r9.on (fun yr9 =>
  some true) (fun y => some y))
  else (some false)
set_option maxRecDepth 100000 in
set_option maxHeartbeats 4000000 in
theorem slices_Equal_int.calls (M : List (Option Nat)) (w0 : World) (x0 : (List Int)) (A0 : Option Addr) (n0 c0 : Nat) (e0 : n0 = x0.length) (x1 : (List Int)) (A1 : Option Addr) (n1 c1 : Nat) (e1 : n1 = x1.length) (hm0 : Mem [] M w0 [.sl (Kd.int .i64) A0 c0 x0, .sl (Kd.int .i64) A1 c1 x1] w0) (r : Bool) (H0 : slices_Equal_int.f x0 x1 = some r) :
    Calls Try.prog 29 [.slice A0 n0 c0, .slice A1 n1 c1].toArray w0 (fun x w' => ∃ v, x = .returned v ∧ v = .bool r ∧ Mem [] M w0 [] w') := by
  subst e0
  subst e1
  unfold slices_Equal_int.f at H0
  refine enter (n := 26) Try.func29 rfl rfl (by kernel_rfl) fun a0 (hf0 : Fr 26 a0 [(0, .slice A0 x0.length c0), (1, .slice A1 x1.length c1)]) => ?_
  refine wp_seq ?_
  refine reg [] [0, 1] [(0, .slice A0 x0.length c0), (1, .slice A1 x1.length c1)] [] hf0 (by kernel_rfl) trivial fun a1 hf2 => ?_
  refine thenN ?_
  refine wp_seq ?_
  refine wp_seq ?_
  rcases if_split H0 with ⟨c3, H0⟩ | ⟨c3, H0⟩
  · refine reg [.bool false] [0, 1, 10] [(0, .slice A0 x0.length c0), (1, .slice A1 x1.length c1), (10, .bool false)] [.is ((((x0.length : Int) : Int) != (x1.length : Int)) = false)] hf2 (by kernel_rfl) ⟨(neF c3), trivial⟩ fun a4 hf5 => ?_
    refine thenN ?_
    refine condF hf5 (by kernel_rfl) ?_
    refine wp_skip ?_
    refine thenN ?_
    refine wp_seq ?_
    refine wp_seq ?_
    refine reg [] [0, 1, 12, 13] [(0, .slice A0 x0.length c0), (1, .slice A1 x1.length c1), (12, .int .i64 (x0.length : Int)), (13, .int .i64 0)] [] hf5 (by kernel_rfl) trivial fun a6 hf7 => ?_
    refine thenN ?_
    obtain ⟨r9, hr9, H0⟩ := ob_split H0
    refine wpBlock (Mid := fun (a : Act) (w : World) => ∃ yr9 : Int, r9 = .go yr9 ∧ Fr 26 a [(0, .slice A0 x0.length c0), (1, .slice A1 x1.length c1), (12, .int .i64 (x0.length : Int)), (13, .int .i64 yr9)] ∧ Mem [] M w0 [.sl (Kd.int .i64) A0 c0 x0, .sl (Kd.int .i64) A1 c1 x1] w) ?_ ?_
    · refine wpLoop (slices_Equal_int.l0 x0 x1) r9 (fun (s8 : Int) (a : Act) (w : World) => Fr 26 a [(0, .slice A0 x0.length c0), (1, .slice A1 x1.length c1), (12, .int .i64 (x0.length : Int)), (13, .int .i64 s8)] ∧ Mem [] M w0 [.sl (Kd.int .i64) A0 c0 x0, .sl (Kd.int .i64) A1 c1 x1] w) 0 hr9 ⟨hf7.sel (l := [0, 1, 12, 13]) (by kernel_rfl), hm0.sel [0, 1] _ rfl (by kernel_rfl)⟩ ?_
      rintro g10 s8 a11 w12 H1 ⟨hf13, hm14⟩
      unfold slices_Equal_int.l0 at H1
      refine wp_seq ?_
      rcases ifS_split H1 with ⟨c15, H1⟩ | ⟨c15, H1⟩
      · refine reg [.bool true] [0, 1, 12, 13, 14] [(0, .slice A0 x0.length c0), (1, .slice A1 x1.length c1), (12, .int .i64 (x0.length : Int)), (13, .int .i64 s8), (14, .bool true)] [.is (decide (s8 < (x0.length : Int)) = true)] hf13 (by kernel_rfl) ⟨(decide_eq_true c15), trivial⟩ fun a16 hf17 => ?_
        refine thenN ?_
        refine wp_seq ?_
        refine condT hf17 (by kernel_rfl) ?_
        refine wp_skip ?_
        refine thenN ?_
        refine wp_seq ?_
        refine wp_block ?_
        refine wp_seq ?_
        refine reg [] [0, 1, 5, 12, 13] [(0, .slice A0 x0.length c0), (1, .slice A1 x1.length c1), (5, .int .i64 s8), (12, .int .i64 (x0.length : Int)), (13, .int .i64 s8)] [] hf17 (by kernel_rfl) trivial fun a18 hf19 => ?_
        refine thenN ?_
        refine wp_seq ?_
        obtain ⟨g20, H1⟩ := ifS_guard H1
        obtain ⟨g21, H1⟩ := ifS_guard H1
        rcases ifS_split H1 with ⟨c22, H1⟩ | ⟨c22, H1⟩
        · have q23 := (hm14.slAt 0 rfl).int s8 g20.1 g20.2
          have q24 := (hm14.slAt 1 rfl).int s8 g21.1 g21.2
          refine regQ [.int .i64 (rd x0 s8), .int .i64 (rd x1 s8), .bool false] [0, 1, 12, 13, 24] [(0, .slice A0 x0.length c0), (1, .slice A1 x1.length c1), (12, .int .i64 (x0.length : Int)), (13, .int .i64 s8), (24, .bool false)] [.is (Option.isSome A0 = true), .is (0 ≤ s8 ∧ s8 < (x0.length : Int)), .cell ((ad A0).add ((s8).toNat * 1)) (.int .i64 (rd x0 s8)), .is (Option.isSome A1 = true), .is (0 ≤ s8 ∧ s8 < (x1.length : Int)), .cell ((ad A1).add ((s8).toNat * 1)) (.int .i64 (rd x1 s8)), .is ((((rd x0 s8) : Int) != (rd x1 s8)) = false)] (by kernel_rfl) (by kernel_rfl) hf19 (by kernel_rfl) ⟨q23.1, g20, q23.2, q24.1, g21, q24.2, (neF c22), trivial⟩ fun a25 w27 hf26 hg28 => ?_
          have hm29 : Mem [] M w0 [.sl (Kd.int .i64) A0 c0 x0, .sl (Kd.int .i64) A1 c1 x1] w27 := hm14.still hg28
          refine thenN ?_
          refine condF hf26 (by kernel_rfl) ?_
          refine wp_skip ?_
          refine blkN ?_
          refine thenN ?_
          refine reg [] [0, 1, 12, 13] [(0, .slice A0 x0.length c0), (1, .slice A1 x1.length c1), (12, .int .i64 (x0.length : Int)), (13, .int .i64 (w64 (s8 + 1)))] [] hf26 (by kernel_rfl) trivial fun a30 hf31 => ?_
          exact ⟨(w64 (s8 + 1)), H1, hf31.sel (l := [0, 1, 12, 13]) (by kernel_rfl), hm29.sel [0, 1] _ rfl (by kernel_rfl)⟩
        · have q32 := (hm14.slAt 0 rfl).int s8 g20.1 g20.2
          have q33 := (hm14.slAt 1 rfl).int s8 g21.1 g21.2
          refine regQ [.int .i64 (rd x0 s8), .int .i64 (rd x1 s8), .bool true] [0, 1, 12, 13, 24] [(0, .slice A0 x0.length c0), (1, .slice A1 x1.length c1), (12, .int .i64 (x0.length : Int)), (13, .int .i64 s8), (24, .bool true)] [.is (Option.isSome A0 = true), .is (0 ≤ s8 ∧ s8 < (x0.length : Int)), .cell ((ad A0).add ((s8).toNat * 1)) (.int .i64 (rd x0 s8)), .is (Option.isSome A1 = true), .is (0 ≤ s8 ∧ s8 < (x1.length : Int)), .cell ((ad A1).add ((s8).toNat * 1)) (.int .i64 (rd x1 s8)), .is ((((rd x0 s8) : Int) != (rd x1 s8)) = true)] (by kernel_rfl) (by kernel_rfl) hf19 (by kernel_rfl) ⟨q32.1, g20, q32.2, q33.1, g21, q33.2, (neT c22), trivial⟩ fun a34 w36 hf35 hg37 => ?_
          have hm38 : Mem [] M w0 [.sl (Kd.int .i64) A0 c0 x0, .sl (Kd.int .i64) A1 c1 x1] w36 := hm14.still hg37
          refine thenN ?_
          refine condT hf35 (by kernel_rfl) ?_
          refine wp_seq ?_
          refine reg [] [4] [(4, .bool false)] [] hf35 (by kernel_rfl) trivial fun a39 hf40 => ?_
          have hm41 : Mem [] M w0 [] w36 := hm38.sel [] _ rfl (by kernel_rfl)
          refine thenN ?_
          refine wp_ret ?_
          refine blkR ?_
          refine thenR ?_
          refine thenR ?_
          refine .inr ⟨rfl, ?_⟩
          refine thenR ?_
          have hm42 : Mem [] M w0 [] w36 := hm41.sel [] _ rfl (by kernel_rfl)
          obtain rfl := Option.some.inj H1
          obtain rfl := Option.some.inj H0
          refine ret [] [.bool false] [] hf40 (by kernel_rfl) trivial ?_
          exact ⟨_, rfl, rfl, hm42⟩
      · refine reg [.bool false] [0, 1, 12, 13, 14] [(0, .slice A0 x0.length c0), (1, .slice A1 x1.length c1), (12, .int .i64 (x0.length : Int)), (13, .int .i64 s8), (14, .bool false)] [.is (decide (s8 < (x0.length : Int)) = false)] hf13 (by kernel_rfl) ⟨(decide_eq_false c15), trivial⟩ fun a44 hf45 => ?_
        refine thenN ?_
        refine wp_seq ?_
        refine condF hf45 (by kernel_rfl) ?_
        refine wp_exit ?_
        refine thenE ?_
        refine thenE ?_
        obtain rfl := Option.some.inj H1
        exact .inl ⟨rfl, s8, rfl, hf45.sel (l := [0, 1, 12, 13]) (by kernel_rfl), hm14.sel [0, 1] _ rfl (by kernel_rfl)⟩
    rintro a46 w47 ⟨yr9, rfl, hf48, hm49⟩
    refine thenN ?_
    refine wp_seq ?_
    refine reg [] [4] [(4, .bool true)] [] hf48 (by kernel_rfl) trivial fun a50 hf51 => ?_
    have hm52 : Mem [] M w0 [] w47 := hm49.sel [] _ rfl (by kernel_rfl)
    refine thenN ?_
    refine wp_ret ?_
    have hm53 : Mem [] M w0 [] w47 := hm52.sel [] _ rfl (by kernel_rfl)
    obtain rfl := Option.some.inj H0
    refine ret [] [.bool true] [] hf51 (by kernel_rfl) trivial ?_
    exact ⟨_, rfl, rfl, hm53⟩
  · refine reg [.bool true] [0, 1, 10] [(0, .slice A0 x0.length c0), (1, .slice A1 x1.length c1), (10, .bool true)] [.is ((((x0.length : Int) : Int) != (x1.length : Int)) = true)] hf2 (by kernel_rfl) ⟨(neT c3), trivial⟩ fun a55 hf56 => ?_
    refine thenN ?_
    refine condT hf56 (by kernel_rfl) ?_
    refine wp_seq ?_
    refine reg [] [4] [(4, .bool false)] [] hf56 (by kernel_rfl) trivial fun a57 hf58 => ?_
    have hm59 : Mem [] M w0 [] w0 := hm0.sel [] _ rfl (by kernel_rfl)
    refine thenN ?_
    refine wp_ret ?_
    refine thenR ?_
    have hm60 : Mem [] M w0 [] w0 := hm59.sel [] _ rfl (by kernel_rfl)
    obtain rfl := Option.some.inj H0
    refine ret [] [.bool false] [] hf58 (by kernel_rfl) trivial ?_
    exact ⟨_, rfl, rfl, hm60⟩

/-! ### backstitch/shape.Same -/
noncomputable def shape_Same.f (x0 : (List Int)) (x1 : (List Int)) : Option Bool :=
  (slices_Equal_int.f x0 x1).bind fun r3 =>
  some r3
set_option maxRecDepth 100000 in
set_option maxHeartbeats 4000000 in
theorem shape_Same.calls (M : List (Option Nat)) (w0 : World) (x0 : (List Int)) (A0 : Option Addr) (n0 c0 : Nat) (e0 : n0 = x0.length) (x1 : (List Int)) (A1 : Option Addr) (n1 c1 : Nat) (e1 : n1 = x1.length) (hm0 : Mem [] M w0 [.sl (Kd.int .i64) A0 c0 x0, .sl (Kd.int .i64) A1 c1 x1] w0) (r : Bool) (H0 : shape_Same.f x0 x1 = some r) :
    Calls Try.prog 16 [.slice A0 n0 c0, .slice A1 n1 c1].toArray w0 (fun x w' => ∃ v, x = .returned v ∧ v = .bool r ∧ Mem [] M w0 [] w') := by
  subst e0
  subst e1
  unfold shape_Same.f at H0
  refine enter (n := 8) Try.func16 rfl rfl (by kernel_rfl) fun a0 (hf0 : Fr 8 a0 [(0, .slice A0 x0.length c0), (1, .slice A1 x1.length c1)]) => ?_
  refine wp_seq ?_
  refine reg [] [0, 1] [(0, .slice A0 x0.length c0), (1, .slice A1 x1.length c1)] [] hf0 (by kernel_rfl) trivial fun a1 hf2 => ?_
  refine thenN ?_
  refine wp_seq ?_
  obtain ⟨r3, hr3, H0⟩ := ob_split H0
  refine inReg ?_
  refine go 2 [] [5, 6] [(5, .slice A0 x0.length c0), (6, .slice A1 x1.length c1)] [] hf2 (by kernel_rfl) trivial fun a4 hf5 => ?_
  refine listOf hf5 rfl (by kernel_rfl) (aCall (fid := 29) (args := [.slice A0 x0.length c0, .slice A1 x1.length c1]) (d := 7) hf5 (by kernel_rfl) (by kernel_rfl) callable29 (slices_Equal_int.calls _ _ x0 A0 x0.length c0 rfl x1 A1 x1.length c1 rfl (hm0.give [0, 1] [.sl (Kd.int .i64) A0 c0 x0, .sl (Kd.int .i64) A1 c1 x1] rfl rfl) r3 hr3) ?_)
  rintro _ w6 a7 ⟨rfl, hk9⟩ hf8
  have hm10 : Mem [] M w0 [.sl (Kd.int .i64) A0 c0 x0, .sl (Kd.int .i64) A1 c1 x1] w6 := hm0.still hk9.cum.none
  refine go 1 [] [4] [(4, .bool r3)] [] hf8 (by kernel_rfl) trivial fun a11 hf12 => ?_
  refine endL rfl ?_
  have hm13 : Mem [] M w0 [] w6 := hm10.sel [] _ rfl (by kernel_rfl)
  refine thenN ?_
  refine wp_ret ?_
  have hm14 : Mem [] M w0 [] w6 := hm13.sel [] _ rfl (by kernel_rfl)
  obtain rfl := Option.some.inj H0
  refine ret [] [.bool r3] [] hf12 (by kernel_rfl) trivial ?_
  exact ⟨_, rfl, rfl, hm14⟩

/-! ### backstitch/shape.Index -/
noncomputable def shape_Index.l0 (x1 : (List Int)) (x0 : (List Int)) (s19 : (Int × Int)) : Step (Int × Int) (Out2 (Int × Int) Int) :=
  if s19.2 < (x1.length : Int) then (if 0 ≤ s19.2 ∧ s19.2 < (x1.length : Int) then (if (rd x1 s19.2) < 0 then (.done (.ret (-1)))
  else (if 0 ≤ s19.2 ∧ s19.2 < (x0.length : Int) then (if (rd x0 s19.2) ≤ (rd x1 s19.2) then (.done (.ret (-1)))
  else (.next ((w64 ((w64 (s19.1 * (rd x0 s19.2))) + (rd x1 s19.2))), (w64 (s19.2 + 1)))))
  else .bad))
  else .bad)
  else (.done (.go (s19.1, s19.2)))
noncomputable def shape_Index.f (x0 : (List Int)) (x1 : (List Int)) : Option Int :=
  (shape_May.f x0).bind fun r3 =>
  if r3 = true then (if (x1.length : Int) = (x0.length : Int) then ((loop (shape_Index.l0 x1 x0) (0, 0)).bind fun r20 =>
  r20.on (fun yr20 =>
  some yr20.1) (fun y => some y))
  else (some (-1)))
  else (some (-1))
set_option maxRecDepth 100000 in
set_option maxHeartbeats 4000000 in
theorem shape_Index.calls (M : List (Option Nat)) (w0 : World) (x0 : (List Int)) (A0 : Option Addr) (n0 c0 : Nat) (e0 : n0 = x0.length) (x1 : (List Int)) (A1 : Option Addr) (n1 c1 : Nat) (e1 : n1 = x1.length) (hm0 : Mem [] M w0 [.sl (Kd.int .i64) A0 c0 x0, .sl (Kd.int .i64) A1 c1 x1] w0) (r : Int) (H0 : shape_Index.f x0 x1 = some r) :
    Calls Try.prog 17 [.slice A0 n0 c0, .slice A1 n1 c1].toArray w0 (fun x w' => ∃ v, x = .returned v ∧ v = .int .i64 r ∧ Mem [] M w0 [] w') := by
  subst e0
  subst e1
  unfold shape_Index.f at H0
  refine enter (n := 45) Try.func17 rfl rfl (by kernel_rfl) fun a0 (hf0 : Fr 45 a0 [(0, .slice A0 x0.length c0), (1, .slice A1 x1.length c1)]) => ?_
  refine wp_seq ?_
  refine reg [] [0, 1] [(0, .slice A0 x0.length c0), (1, .slice A1 x1.length c1)] [] hf0 (by kernel_rfl) trivial fun a1 hf2 => ?_
  refine thenN ?_
  refine wp_seq ?_
  refine wp_seq ?_
  obtain ⟨r3, hr3, H0⟩ := ob_split H0
  rcases ifb_split H0 with ⟨c4, H0⟩ | ⟨c4, H0⟩
  · rcases if_split H0 with ⟨c5, H0⟩ | ⟨c5, H0⟩
    · refine inReg ?_
      refine go 1 [] [0, 1, 8] [(0, .slice A0 x0.length c0), (1, .slice A1 x1.length c1), (8, .slice A0 x0.length c0)] [] hf2 (by kernel_rfl) trivial fun a6 hf7 => ?_
      refine listOf hf7 rfl (by kernel_rfl) (aCall (fid := 19) (args := [.slice A0 x0.length c0]) (d := 9) hf7 (by kernel_rfl) (by kernel_rfl) callable19 (shape_May.calls _ _ x0 A0 x0.length c0 rfl (hm0.give [0] [.sl (Kd.int .i64) A0 c0 x0] rfl rfl) r3 hr3) ?_)
      rintro _ w8 a9 ⟨rfl, hk11⟩ hf10
      have hm12 : Mem [] M w0 [.sl (Kd.int .i64) A0 c0 x0, .sl (Kd.int .i64) A1 c1 x1] w8 := hm0.still hk11.cum.none
      rw [c4] at hf10
      refine go 8 [.bool false] [0, 1, 17] [(0, .slice A0 x0.length c0), (1, .slice A1 x1.length c1), (17, .bool false)] [.is ((((x1.length : Int) : Int) != (x0.length : Int)) = false)] hf10 (by kernel_rfl) ⟨(neF c5), trivial⟩ fun a13 hf14 => ?_
      refine endL rfl ?_
      refine thenN ?_
      refine condF hf14 (by kernel_rfl) ?_
      refine wp_skip ?_
      refine thenN ?_
      refine wp_seq ?_
      refine reg [] [0, 1, 5] [(0, .slice A0 x0.length c0), (1, .slice A1 x1.length c1), (5, .int .i64 0)] [] hf14 (by kernel_rfl) trivial fun a15 hf16 => ?_
      refine thenN ?_
      refine wp_seq ?_
      refine wp_seq ?_
      refine reg [] [0, 5, 18, 19, 20] [(0, .slice A0 x0.length c0), (5, .int .i64 0), (18, .slice A1 x1.length c1), (19, .int .i64 (x1.length : Int)), (20, .int .i64 0)] [] hf16 (by kernel_rfl) trivial fun a17 hf18 => ?_
      refine thenN ?_
      obtain ⟨r20, hr20, H0⟩ := ob_split H0
      refine wpBlock (Mid := fun (a : Act) (w : World) => ∃ yr20 : (Int × Int), r20 = .go yr20 ∧ Fr 45 a [(0, .slice A0 x0.length c0), (5, .int .i64 yr20.1), (18, .slice A1 x1.length c1), (19, .int .i64 (x1.length : Int)), (20, .int .i64 yr20.2)] ∧ Mem [] M w0 [.sl (Kd.int .i64) A0 c0 x0, .sl (Kd.int .i64) A1 c1 x1] w) ?_ ?_
      · refine wpLoop (shape_Index.l0 x1 x0) r20 (fun (s19 : (Int × Int)) (a : Act) (w : World) => Fr 45 a [(0, .slice A0 x0.length c0), (5, .int .i64 s19.1), (18, .slice A1 x1.length c1), (19, .int .i64 (x1.length : Int)), (20, .int .i64 s19.2)] ∧ Mem [] M w0 [.sl (Kd.int .i64) A0 c0 x0, .sl (Kd.int .i64) A1 c1 x1] w) (0, 0) hr20 ⟨hf18.sel (l := [0, 5, 18, 19, 20]) (by kernel_rfl), hm12.sel [0, 1] _ rfl (by kernel_rfl)⟩ ?_
        rintro g21 s19 a22 w23 H1 ⟨hf24, hm25⟩
        unfold shape_Index.l0 at H1
        refine wp_seq ?_
        rcases ifS_split H1 with ⟨c26, H1⟩ | ⟨c26, H1⟩
        · refine reg [.bool true] [0, 5, 18, 19, 20, 21] [(0, .slice A0 x0.length c0), (5, .int .i64 s19.1), (18, .slice A1 x1.length c1), (19, .int .i64 (x1.length : Int)), (20, .int .i64 s19.2), (21, .bool true)] [.is (decide (s19.2 < (x1.length : Int)) = true)] hf24 (by kernel_rfl) ⟨(decide_eq_true c26), trivial⟩ fun a27 hf28 => ?_
          refine thenN ?_
          refine wp_seq ?_
          refine condT hf28 (by kernel_rfl) ?_
          refine wp_skip ?_
          refine thenN ?_
          refine wp_seq ?_
          refine wp_block ?_
          refine wp_seq ?_
          obtain ⟨g29, H1⟩ := ifS_guard H1
          have q30 := (hm25.slAt 1 rfl).int s19.2 g29.1 g29.2
          refine reg [.int .i64 (rd x1 s19.2)] [0, 5, 6, 7, 18, 19, 20] [(0, .slice A0 x0.length c0), (5, .int .i64 s19.1), (6, .int .i64 s19.2), (7, .int .i64 (rd x1 s19.2)), (18, .slice A1 x1.length c1), (19, .int .i64 (x1.length : Int)), (20, .int .i64 s19.2)] [.is (Option.isSome A1 = true), .is (0 ≤ s19.2 ∧ s19.2 < (x1.length : Int)), .cell ((ad A1).add ((s19.2).toNat * 1)) (.int .i64 (rd x1 s19.2))] hf28 (by kernel_rfl) ⟨q30.1, g29, q30.2, trivial⟩ fun a31 hf32 => ?_
          refine thenN ?_
          refine wp_seq ?_
          refine wp_seq ?_
          rcases ifS_split H1 with ⟨c33, H1⟩ | ⟨c33, H1⟩
          · refine reg [.bool true] [0, 5, 6, 7, 18, 19, 20, 34] [(0, .slice A0 x0.length c0), (5, .int .i64 s19.1), (6, .int .i64 s19.2), (7, .int .i64 (rd x1 s19.2)), (18, .slice A1 x1.length c1), (19, .int .i64 (x1.length : Int)), (20, .int .i64 s19.2), (34, .bool true)] [.is (decide ((rd x1 s19.2) < 0) = true)] hf32 (by kernel_rfl) ⟨(decide_eq_true c33), trivial⟩ fun a34 hf35 => ?_
            refine thenN ?_
            refine condT hf35 (by kernel_rfl) ?_
            refine wp_seq ?_
            refine reg [] [4] [(4, .int .i64 (-1))] [] hf35 (by kernel_rfl) trivial fun a36 hf37 => ?_
            have hm38 : Mem [] M w0 [] w23 := hm25.sel [] _ rfl (by kernel_rfl)
            refine thenN ?_
            refine wp_ret ?_
            refine thenR ?_
            refine blkR ?_
            refine thenR ?_
            refine thenR ?_
            refine .inr ⟨rfl, ?_⟩
            refine thenR ?_
            have hm39 : Mem [] M w0 [] w23 := hm38.sel [] _ rfl (by kernel_rfl)
            obtain rfl := Option.some.inj H1
            obtain rfl := Option.some.inj H0
            refine ret [] [.int .i64 (-1)] [] hf37 (by kernel_rfl) trivial ?_
            exact ⟨_, rfl, rfl, hm39⟩
          · obtain ⟨g41, H1⟩ := ifS_guard H1
            rcases ifS_split H1 with ⟨c42, H1⟩ | ⟨c42, H1⟩
            · have q43 := (hm25.slAt 0 rfl).int s19.2 g41.1 g41.2
              refine reg [.bool false, .int .i64 (rd x0 s19.2), .bool true] [0, 5, 6, 7, 18, 19, 20, 34] [(0, .slice A0 x0.length c0), (5, .int .i64 s19.1), (6, .int .i64 s19.2), (7, .int .i64 (rd x1 s19.2)), (18, .slice A1 x1.length c1), (19, .int .i64 (x1.length : Int)), (20, .int .i64 s19.2), (34, .bool true)] [.is (decide ((rd x1 s19.2) < 0) = false), .is (Option.isSome A0 = true), .is (0 ≤ s19.2 ∧ s19.2 < (x0.length : Int)), .cell ((ad A0).add ((s19.2).toNat * 1)) (.int .i64 (rd x0 s19.2)), .is (decide ((rd x0 s19.2) ≤ (rd x1 s19.2)) = true)] hf32 (by kernel_rfl) ⟨(decide_eq_false c33), q43.1, g41, q43.2, (decide_eq_true c42), trivial⟩ fun a44 hf45 => ?_
              refine thenN ?_
              refine condT hf45 (by kernel_rfl) ?_
              refine wp_seq ?_
              refine reg [] [4] [(4, .int .i64 (-1))] [] hf45 (by kernel_rfl) trivial fun a46 hf47 => ?_
              have hm48 : Mem [] M w0 [] w23 := hm25.sel [] _ rfl (by kernel_rfl)
              refine thenN ?_
              refine wp_ret ?_
              refine thenR ?_
              refine blkR ?_
              refine thenR ?_
              refine thenR ?_
              refine .inr ⟨rfl, ?_⟩
              refine thenR ?_
              have hm49 : Mem [] M w0 [] w23 := hm48.sel [] _ rfl (by kernel_rfl)
              obtain rfl := Option.some.inj H1
              obtain rfl := Option.some.inj H0
              refine ret [] [.int .i64 (-1)] [] hf47 (by kernel_rfl) trivial ?_
              exact ⟨_, rfl, rfl, hm49⟩
            · have q51 := (hm25.slAt 0 rfl).int s19.2 g41.1 g41.2
              refine reg [.bool false, .int .i64 (rd x0 s19.2), .bool false] [0, 5, 6, 7, 18, 19, 20, 34] [(0, .slice A0 x0.length c0), (5, .int .i64 s19.1), (6, .int .i64 s19.2), (7, .int .i64 (rd x1 s19.2)), (18, .slice A1 x1.length c1), (19, .int .i64 (x1.length : Int)), (20, .int .i64 s19.2), (34, .bool false)] [.is (decide ((rd x1 s19.2) < 0) = false), .is (Option.isSome A0 = true), .is (0 ≤ s19.2 ∧ s19.2 < (x0.length : Int)), .cell ((ad A0).add ((s19.2).toNat * 1)) (.int .i64 (rd x0 s19.2)), .is (decide ((rd x0 s19.2) ≤ (rd x1 s19.2)) = false)] hf32 (by kernel_rfl) ⟨(decide_eq_false c33), q51.1, g41, q51.2, (decide_eq_false c42), trivial⟩ fun a52 hf53 => ?_
              refine thenN ?_
              refine condF hf53 (by kernel_rfl) ?_
              refine wp_skip ?_
              refine thenN ?_
              have q54 := (hm25.slAt 0 rfl).int s19.2 g41.1 g41.2
              refine reg [.int .i64 (rd x0 s19.2)] [0, 5, 18, 19, 20] [(0, .slice A0 x0.length c0), (5, .int .i64 (w64 ((w64 (s19.1 * (rd x0 s19.2))) + (rd x1 s19.2)))), (18, .slice A1 x1.length c1), (19, .int .i64 (x1.length : Int)), (20, .int .i64 s19.2)] [.is (Option.isSome A0 = true), .is (0 ≤ s19.2 ∧ s19.2 < (x0.length : Int)), .cell ((ad A0).add ((s19.2).toNat * 1)) (.int .i64 (rd x0 s19.2))] hf53 (by kernel_rfl) ⟨q54.1, g41, q54.2, trivial⟩ fun a55 hf56 => ?_
              refine blkN ?_
              refine thenN ?_
              refine reg [] [0, 5, 18, 19, 20] [(0, .slice A0 x0.length c0), (5, .int .i64 (w64 ((w64 (s19.1 * (rd x0 s19.2))) + (rd x1 s19.2)))), (18, .slice A1 x1.length c1), (19, .int .i64 (x1.length : Int)), (20, .int .i64 (w64 (s19.2 + 1)))] [] hf56 (by kernel_rfl) trivial fun a57 hf58 => ?_
              exact ⟨((w64 ((w64 (s19.1 * (rd x0 s19.2))) + (rd x1 s19.2))), (w64 (s19.2 + 1))), H1, hf58.sel (l := [0, 5, 18, 19, 20]) (by kernel_rfl), hm25.sel [0, 1] _ rfl (by kernel_rfl)⟩
        · refine reg [.bool false] [0, 5, 18, 19, 20, 21] [(0, .slice A0 x0.length c0), (5, .int .i64 s19.1), (18, .slice A1 x1.length c1), (19, .int .i64 (x1.length : Int)), (20, .int .i64 s19.2), (21, .bool false)] [.is (decide (s19.2 < (x1.length : Int)) = false)] hf24 (by kernel_rfl) ⟨(decide_eq_false c26), trivial⟩ fun a59 hf60 => ?_
          refine thenN ?_
          refine wp_seq ?_
          refine condF hf60 (by kernel_rfl) ?_
          refine wp_exit ?_
          refine thenE ?_
          refine thenE ?_
          obtain rfl := Option.some.inj H1
          exact .inl ⟨rfl, (s19.1, s19.2), rfl, hf60.sel (l := [0, 5, 18, 19, 20]) (by kernel_rfl), hm25.sel [0, 1] _ rfl (by kernel_rfl)⟩
      rintro a61 w62 ⟨yr20, rfl, hf63, hm64⟩
      refine thenN ?_
      refine wp_seq ?_
      refine reg [] [4] [(4, .int .i64 yr20.1)] [] hf63 (by kernel_rfl) trivial fun a65 hf66 => ?_
      have hm67 : Mem [] M w0 [] w62 := hm64.sel [] _ rfl (by kernel_rfl)
      refine thenN ?_
      refine wp_ret ?_
      have hm68 : Mem [] M w0 [] w62 := hm67.sel [] _ rfl (by kernel_rfl)
      obtain rfl := Option.some.inj H0
      refine ret [] [.int .i64 yr20.1] [] hf66 (by kernel_rfl) trivial ?_
      exact ⟨_, rfl, rfl, hm68⟩
    · refine inReg ?_
      refine go 1 [] [0, 1, 8] [(0, .slice A0 x0.length c0), (1, .slice A1 x1.length c1), (8, .slice A0 x0.length c0)] [] hf2 (by kernel_rfl) trivial fun a70 hf71 => ?_
      refine listOf hf71 rfl (by kernel_rfl) (aCall (fid := 19) (args := [.slice A0 x0.length c0]) (d := 9) hf71 (by kernel_rfl) (by kernel_rfl) callable19 (shape_May.calls _ _ x0 A0 x0.length c0 rfl (hm0.give [0] [.sl (Kd.int .i64) A0 c0 x0] rfl rfl) r3 hr3) ?_)
      rintro _ w72 a73 ⟨rfl, hk75⟩ hf74
      have hm76 : Mem [] M w0 [.sl (Kd.int .i64) A0 c0 x0, .sl (Kd.int .i64) A1 c1 x1] w72 := hm0.still hk75.cum.none
      rw [c4] at hf74
      refine go 8 [.bool true] [0, 1, 17] [(0, .slice A0 x0.length c0), (1, .slice A1 x1.length c1), (17, .bool true)] [.is ((((x1.length : Int) : Int) != (x0.length : Int)) = true)] hf74 (by kernel_rfl) ⟨(neT c5), trivial⟩ fun a77 hf78 => ?_
      refine endL rfl ?_
      refine thenN ?_
      refine condT hf78 (by kernel_rfl) ?_
      refine wp_seq ?_
      refine reg [] [4] [(4, .int .i64 (-1))] [] hf78 (by kernel_rfl) trivial fun a79 hf80 => ?_
      have hm81 : Mem [] M w0 [] w72 := hm76.sel [] _ rfl (by kernel_rfl)
      refine thenN ?_
      refine wp_ret ?_
      refine thenR ?_
      have hm82 : Mem [] M w0 [] w72 := hm81.sel [] _ rfl (by kernel_rfl)
      obtain rfl := Option.some.inj H0
      refine ret [] [.int .i64 (-1)] [] hf80 (by kernel_rfl) trivial ?_
      exact ⟨_, rfl, rfl, hm82⟩
  · refine inReg ?_
    refine go 1 [] [0, 1, 8] [(0, .slice A0 x0.length c0), (1, .slice A1 x1.length c1), (8, .slice A0 x0.length c0)] [] hf2 (by kernel_rfl) trivial fun a84 hf85 => ?_
    refine listOf hf85 rfl (by kernel_rfl) (aCall (fid := 19) (args := [.slice A0 x0.length c0]) (d := 9) hf85 (by kernel_rfl) (by kernel_rfl) callable19 (shape_May.calls _ _ x0 A0 x0.length c0 rfl (hm0.give [0] [.sl (Kd.int .i64) A0 c0 x0] rfl rfl) r3 hr3) ?_)
    rintro _ w86 a87 ⟨rfl, hk89⟩ hf88
    have hm90 : Mem [] M w0 [.sl (Kd.int .i64) A0 c0 x0, .sl (Kd.int .i64) A1 c1 x1] w86 := hm0.still hk89.cum.none
    rw [c4] at hf88
    refine go 8 [] [0, 1, 17] [(0, .slice A0 x0.length c0), (1, .slice A1 x1.length c1), (17, .bool true)] [] hf88 (by kernel_rfl) trivial fun a91 hf92 => ?_
    refine endL rfl ?_
    refine thenN ?_
    refine condT hf92 (by kernel_rfl) ?_
    refine wp_seq ?_
    refine reg [] [4] [(4, .int .i64 (-1))] [] hf92 (by kernel_rfl) trivial fun a93 hf94 => ?_
    have hm95 : Mem [] M w0 [] w86 := hm90.sel [] _ rfl (by kernel_rfl)
    refine thenN ?_
    refine wp_ret ?_
    refine thenR ?_
    have hm96 : Mem [] M w0 [] w86 := hm95.sel [] _ rfl (by kernel_rfl)
    obtain rfl := Option.some.inj H0
    refine ret [] [.int .i64 (-1)] [] hf94 (by kernel_rfl) trivial ?_
    exact ⟨_, rfl, rfl, hm96⟩

/-! ### backstitch/shape.Strides -/
noncomputable def shape_Strides.l0 (x0 : (List Int)) (s32 : (Int × Int × (List Int))) : Step (Int × Int × (List Int)) (Int × Int × (List Int)) :=
  if 0 ≤ s32.2.1 then (if 0 ≤ s32.2.1 ∧ s32.2.1 < (s32.2.2.length : Int) then (if 0 ≤ s32.2.1 ∧ s32.2.1 < (x0.length : Int) then (.next ((w64 (s32.1 * (rd x0 s32.2.1))), (w64 (s32.2.1 - 1)), (put s32.2.2 s32.2.1 s32.1)))
  else .bad)
  else .bad)
  else (.done (s32.1, s32.2.1, s32.2.2))
noncomputable def shape_Strides.f (x0 : (List Int)) : Option (List Int) :=
  (shape_May.f x0).bind fun r3 =>
  if r3 = true then (if 0 ≤ (x0.length : Int) ∧ (x0.length : Int) ≤ 1099511627776 then ((loop (shape_Strides.l0 x0) (1, (w64 ((x0.length : Int) - 1)), (List.replicate ((x0.length : Int)).toNat (0 : Int)))).bind fun r33 =>
  some r33.2.2)
  else none)
  else (some ([] : (List Int)))
set_option maxRecDepth 100000 in
set_option maxHeartbeats 4000000 in
theorem shape_Strides.calls (M : List (Option Nat)) (w0 : World) (x0 : (List Int)) (A0 : Option Addr) (n0 c0 : Nat) (e0 : n0 = x0.length) (hm0 : Mem [] M w0 [.sl (Kd.int .i64) A0 c0 x0] w0) (r : (List Int)) (H0 : shape_Strides.f x0 = some r) :
    Calls Try.prog 21 [.slice A0 n0 c0].toArray w0 (fun x w' => ∃ v, x = .returned v ∧ ∃ Ar0 cr0, v = .slice Ar0 r.length cr0 ∧ Mem [] M w0 [.ow (Kd.int .i64) 3 Ar0 cr0 r] w') := by
  subst e0
  unfold shape_Strides.f at H0
  refine enter (n := 30) Try.func21 rfl rfl (by kernel_rfl) fun a0 (hf0 : Fr 30 a0 [(0, .slice A0 x0.length c0)]) => ?_
  refine wp_seq ?_
  refine reg [] [0] [(0, .slice A0 x0.length c0)] [] hf0 (by kernel_rfl) trivial fun a1 hf2 => ?_
  refine thenN ?_
  refine wp_seq ?_
  refine wp_seq ?_
  obtain ⟨r3, hr3, H0⟩ := ob_split H0
  rcases ifb_split H0 with ⟨c4, H0⟩ | ⟨c4, H0⟩
  · refine inReg ?_
    refine go 1 [] [0, 6] [(0, .slice A0 x0.length c0), (6, .slice A0 x0.length c0)] [] hf2 (by kernel_rfl) trivial fun a5 hf6 => ?_
    refine listOf hf6 rfl (by kernel_rfl) (aCall (fid := 19) (args := [.slice A0 x0.length c0]) (d := 7) hf6 (by kernel_rfl) (by kernel_rfl) callable19 (shape_May.calls _ _ x0 A0 x0.length c0 rfl (hm0.give [0] [.sl (Kd.int .i64) A0 c0 x0] rfl rfl) r3 hr3) ?_)
    rintro _ w7 a8 ⟨rfl, hk10⟩ hf9
    have hm11 : Mem [] M w0 [.sl (Kd.int .i64) A0 c0 x0] w7 := hm0.still hk10.cum.none
    rw [c4] at hf9
    refine go 1 [] [0, 8] [(0, .slice A0 x0.length c0), (8, .bool false)] [] hf9 (by kernel_rfl) trivial fun a12 hf13 => ?_
    refine endL rfl ?_
    refine thenN ?_
    refine condF hf13 (by kernel_rfl) ?_
    refine wp_skip ?_
    refine thenN ?_
    refine wp_seq ?_
    obtain ⟨g14, H0⟩ := if_guard H0
    refine inReg ?_
    refine go 2 [] [0, 10] [(0, .slice A0 x0.length c0), (10, .int .i64 (x0.length : Int))] [] hf13 (by kernel_rfl) trivial fun a15 hf16 => ?_
    refine listOf hf16 rfl (by kernel_rfl) (aMake (kd := (Kd.int .i64)) (x := 0) (E := 3) (L := (x0.length : Int)) (z := [.int .i64 0]) (sz := 1) (d := 11) hf16 (by kernel_rfl) (by kernel_rfl) rfl (fun _ _ => rfl) g14.1 g14.2 ?_)
    intro A17 c18 w19 a20 ho22 hb24 hg23 hf21
    have hm25 : Mem [] M w0 [.ow (Kd.int .i64) 3 A17 c18 (List.replicate ((x0.length : Int)).toNat (0 : Int)), .sl (Kd.int .i64) A0 c0 x0] w19 := hm11.own (ho22 _) hg23
    refine go 1 [] [0, 3] [(0, .slice A0 x0.length c0), (3, .slice A17 ((List.replicate ((x0.length : Int)).toNat (0 : Int)).length) c18)] [] hf21 (by kernel_rfl) trivial fun a26 hf27 => ?_
    refine endL rfl ?_
    refine thenN ?_
    refine wp_seq ?_
    refine reg [] [0, 3, 4] [(0, .slice A0 x0.length c0), (3, .slice A17 ((List.replicate ((x0.length : Int)).toNat (0 : Int)).length) c18), (4, .int .i64 1)] [] hf27 (by kernel_rfl) trivial fun a28 hf29 => ?_
    refine thenN ?_
    refine wp_seq ?_
    refine wp_seq ?_
    refine reg [] [0, 3, 4, 5] [(0, .slice A0 x0.length c0), (3, .slice A17 ((List.replicate ((x0.length : Int)).toNat (0 : Int)).length) c18), (4, .int .i64 1), (5, .int .i64 (w64 ((x0.length : Int) - 1)))] [] hf29 (by kernel_rfl) trivial fun a30 hf31 => ?_
    refine thenN ?_
    obtain ⟨r33, hr33, H0⟩ := ob_split H0
    refine wpBlock (Mid := fun (a : Act) (w : World) => Fr 30 a [(0, .slice A0 x0.length c0), (3, .slice A17 r33.2.2.length c18), (4, .int .i64 r33.1), (5, .int .i64 r33.2.1)] ∧ Mem [] M w0 [.ow (Kd.int .i64) 3 A17 c18 r33.2.2, .sl (Kd.int .i64) A0 c0 x0] w) ?_ ?_
    · refine wpLoop (shape_Strides.l0 x0) r33 (fun (s32 : (Int × Int × (List Int))) (a : Act) (w : World) => Fr 30 a [(0, .slice A0 x0.length c0), (3, .slice A17 s32.2.2.length c18), (4, .int .i64 s32.1), (5, .int .i64 s32.2.1)] ∧ Mem [] M w0 [.ow (Kd.int .i64) 3 A17 c18 s32.2.2, .sl (Kd.int .i64) A0 c0 x0] w) (1, (w64 ((x0.length : Int) - 1)), (List.replicate ((x0.length : Int)).toNat (0 : Int))) hr33 ⟨hf31.sel (l := [0, 3, 4, 5]) (by kernel_rfl), hm25.sel [0, 1] _ rfl (by kernel_rfl)⟩ ?_
      rintro g34 s32 a35 w36 H1 ⟨hf37, hm38⟩
      unfold shape_Strides.l0 at H1
      refine wp_seq ?_
      refine wp_seq ?_
      rcases ifS_split H1 with ⟨c39, H1⟩ | ⟨c39, H1⟩
      · refine reg [.bool true] [0, 3, 4, 5, 16] [(0, .slice A0 x0.length c0), (3, .slice A17 s32.2.2.length c18), (4, .int .i64 s32.1), (5, .int .i64 s32.2.1), (16, .bool true)] [.is (decide (0 ≤ s32.2.1) = true)] hf37 (by kernel_rfl) ⟨(decide_eq_true c39), trivial⟩ fun a40 hf41 => ?_
        refine thenN ?_
        refine condT hf41 (by kernel_rfl) ?_
        refine wp_skip ?_
        refine thenN ?_
        refine wp_seq ?_
        refine wp_block ?_
        refine wp_seq ?_
        obtain ⟨g42, H1⟩ := ifS_guard H1
        have q43 := (hm38.owAt 0 rfl).int s32.2.1 g42.1 g42.2
        refine inReg ?_
        refine go 4 [] [0, 3, 4, 5, 21, 22] [(0, .slice A0 x0.length c0), (3, .slice A17 s32.2.2.length c18), (4, .int .i64 s32.1), (5, .int .i64 s32.2.1), (21, .int .i64 s32.1), (22, .pointer (some ((ad A17).add ((s32.2.1).toNat * 1))))] [.is (Option.isSome A17 = true), .is (0 ≤ s32.2.1 ∧ s32.2.1 < (s32.2.2.length : Int))] hf41 (by kernel_rfl) ⟨q43.1, g42, trivial⟩ fun a44 hf45 => ?_
        refine listOf hf45 rfl (by kernel_rfl) (aStoreO (kd := (Kd.int .i64)) (base := 0) (E := 3) (A := A17) (c := c18) (xs := s32.2.2) (i := s32.2.1) (x := s32.1) (us := [.int .i64 s32.1]) (sz := 1) hf45 (by kernel_rfl) rfl (by kernel_rfl) (hm38.at 0 rfl) rfl g42.1 g42.2 ?_)
        intro w46 hx47 hg48
        have hm49 : Mem [] M w0 [.ow (Kd.int .i64) 3 A17 c18 (put s32.2.2 s32.2.1 s32.1), .sl (Kd.int .i64) A0 c0 x0] w46 := hm38.setOwn 0 _ rfl rfl hx47 hg48 (.inl rfl)
        refine endL rfl ?_
        refine thenN ?_
        obtain ⟨g50, H1⟩ := ifS_guard H1
        have q51 := (hm49.slAt 1 rfl).int s32.2.1 g50.1 g50.2
        refine reg [.int .i64 (rd x0 s32.2.1)] [0, 3, 4, 5] [(0, .slice A0 x0.length c0), (3, .slice A17 s32.2.2.length c18), (4, .int .i64 (w64 (s32.1 * (rd x0 s32.2.1)))), (5, .int .i64 s32.2.1)] [.is (Option.isSome A0 = true), .is (0 ≤ s32.2.1 ∧ s32.2.1 < (x0.length : Int)), .cell ((ad A0).add ((s32.2.1).toNat * 1)) (.int .i64 (rd x0 s32.2.1))] hf45 (by kernel_rfl) ⟨q51.1, g50, q51.2, trivial⟩ fun a52 hf53 => ?_
        refine blkN ?_
        refine thenN ?_
        refine reg [] [0, 3, 4, 5] [(0, .slice A0 x0.length c0), (3, .slice A17 s32.2.2.length c18), (4, .int .i64 (w64 (s32.1 * (rd x0 s32.2.1)))), (5, .int .i64 (w64 (s32.2.1 - 1)))] [] hf53 (by kernel_rfl) trivial fun a54 hf55 => ?_
        have hf56 : Fr 30 a54 [(0, .slice A0 x0.length c0), (3, .slice A17 s32.2.2.length c18), (4, .int .i64 (w64 (s32.1 * (rd x0 s32.2.1)))), (5, .int .i64 (w64 (s32.2.1 - 1)))] := hf55.sel (l := [0, 3, 4, 5]) (by kernel_rfl)
        have hm57 : Mem [] M w0 [.ow (Kd.int .i64) 3 A17 c18 (put s32.2.2 s32.2.1 s32.1), .sl (Kd.int .i64) A0 c0 x0] w46 := hm49.sel [0, 1] _ rfl (by kernel_rfl)
        exact ⟨((w64 (s32.1 * (rd x0 s32.2.1))), (w64 (s32.2.1 - 1)), (put s32.2.2 s32.2.1 s32.1)), H1, (by simpa only [put_length] using hf56), (by simpa only [put_length] using hm57)⟩
      · refine reg [.bool false] [0, 3, 4, 5, 16] [(0, .slice A0 x0.length c0), (3, .slice A17 s32.2.2.length c18), (4, .int .i64 s32.1), (5, .int .i64 s32.2.1), (16, .bool false)] [.is (decide (0 ≤ s32.2.1) = false)] hf37 (by kernel_rfl) ⟨(decide_eq_false c39), trivial⟩ fun a58 hf59 => ?_
        refine thenN ?_
        refine condF hf59 (by kernel_rfl) ?_
        refine wp_exit ?_
        refine thenE ?_
        refine thenE ?_
        obtain rfl := Option.some.inj H1
        exact .inl ⟨rfl, hf59.sel (l := [0, 3, 4, 5]) (by kernel_rfl), hm38.sel [0, 1] _ rfl (by kernel_rfl)⟩
    rintro a60 w61 ⟨hf62, hm63⟩
    refine thenN ?_
    refine wp_seq ?_
    refine reg [] [2] [(2, .slice A17 r33.2.2.length c18)] [] hf62 (by kernel_rfl) trivial fun a64 hf65 => ?_
    have hm66 : Mem [] M w0 [.ow (Kd.int .i64) 3 A17 c18 r33.2.2] w61 := hm63.sel [0] _ rfl (by kernel_rfl)
    refine thenN ?_
    refine wp_ret ?_
    have hm67 : Mem [] M w0 [.ow (Kd.int .i64) 3 A17 c18 r33.2.2] w61 := hm66.sel [0] _ rfl (by kernel_rfl)
    obtain rfl := Option.some.inj H0
    refine ret [] [.slice A17 r33.2.2.length c18] [] hf65 (by kernel_rfl) trivial ?_
    exact ⟨_, rfl, A17, c18, rfl, hm67⟩
  · refine inReg ?_
    refine go 1 [] [0, 6] [(0, .slice A0 x0.length c0), (6, .slice A0 x0.length c0)] [] hf2 (by kernel_rfl) trivial fun a69 hf70 => ?_
    refine listOf hf70 rfl (by kernel_rfl) (aCall (fid := 19) (args := [.slice A0 x0.length c0]) (d := 7) hf70 (by kernel_rfl) (by kernel_rfl) callable19 (shape_May.calls _ _ x0 A0 x0.length c0 rfl (hm0.give [0] [.sl (Kd.int .i64) A0 c0 x0] rfl rfl) r3 hr3) ?_)
    rintro _ w71 a72 ⟨rfl, hk74⟩ hf73
    have hm75 : Mem [] M w0 [.sl (Kd.int .i64) A0 c0 x0] w71 := hm0.still hk74.cum.none
    rw [c4] at hf73
    refine go 1 [] [0, 8] [(0, .slice A0 x0.length c0), (8, .bool true)] [] hf73 (by kernel_rfl) trivial fun a76 hf77 => ?_
    refine endL rfl ?_
    refine thenN ?_
    refine condT hf77 (by kernel_rfl) ?_
    refine wp_seq ?_
    refine reg [] [2] [(2, .slice none 0 0)] [] hf77 (by kernel_rfl) trivial fun a78 hf79 => ?_
    have hm80 : Mem [] M w0 [] w71 := hm75.sel [] _ rfl (by kernel_rfl)
    refine thenN ?_
    refine wp_ret ?_
    refine thenR ?_
    have hm81 : Mem [] M w0 [.ow (Kd.int .i64) 3 none 0 ([] : (List Int))] w71 := hm80.nilOw (Kd.int .i64) 3
    have hm82 : Mem [] M w0 [.ow (Kd.int .i64) 3 none 0 ([] : (List Int))] w71 := hm81.sel [0] _ rfl (by kernel_rfl)
    obtain rfl := Option.some.inj H0
    refine ret [] [.slice none 0 0] [] hf79 (by kernel_rfl) trivial ?_
    exact ⟨_, rfl, none, 0, rfl, hm82⟩

/-! ### backstitch/backstitchref1.SameInts -/
noncomputable def ref1_SameInts.l0 (x0 : (List Int)) (x1 : (List Int)) (s8 : Int) : Step Int (Out2 Int Bool) :=
  if s8 < (x0.length : Int) then (if 0 ≤ s8 ∧ s8 < (x0.length : Int) then (if 0 ≤ s8 ∧ s8 < (x1.length : Int) then (if (rd x0 s8) = (rd x1 s8) then (.next (w64 (s8 + 1)))
  else (.done (.ret false)))
  else .bad)
  else .bad)
  else (.done (.go s8))
noncomputable def ref1_SameInts.f (x0 : (List Int)) (x1 : (List Int)) : Option Bool :=
  if (x0.length : Int) = (x1.length : Int) then ((loop (ref1_SameInts.l0 x0 x1) 0).bind fun r9 =>
  r9.on (fun yr9 =>
  some true) (fun y => some y))
  else (some false)
set_option maxRecDepth 100000 in
set_option maxHeartbeats 4000000 in
theorem ref1_SameInts.calls (M : List (Option Nat)) (w0 : World) (x0 : (List Int)) (A0 : Option Addr) (n0 c0 : Nat) (e0 : n0 = x0.length) (x1 : (List Int)) (A1 : Option Addr) (n1 c1 : Nat) (e1 : n1 = x1.length) (hm0 : Mem [] M w0 [.sl (Kd.int .i64) A0 c0 x0, .sl (Kd.int .i64) A1 c1 x1] w0) (r : Bool) (H0 : ref1_SameInts.f x0 x1 = some r) :
    Calls Try.prog 12 [.slice A0 n0 c0, .slice A1 n1 c1].toArray w0 (fun x w' => ∃ v, x = .returned v ∧ v = .bool r ∧ Mem [] M w0 [] w') := by
  subst e0
  subst e1
  unfold ref1_SameInts.f at H0
  refine enter (n := 26) Try.func12 rfl rfl (by kernel_rfl) fun a0 (hf0 : Fr 26 a0 [(0, .slice A0 x0.length c0), (1, .slice A1 x1.length c1)]) => ?_
  refine wp_seq ?_
  refine reg [] [0, 1] [(0, .slice A0 x0.length c0), (1, .slice A1 x1.length c1)] [] hf0 (by kernel_rfl) trivial fun a1 hf2 => ?_
  refine thenN ?_
  refine wp_seq ?_
  refine wp_seq ?_
  rcases if_split H0 with ⟨c3, H0⟩ | ⟨c3, H0⟩
  · refine reg [.bool false] [0, 1, 10] [(0, .slice A0 x0.length c0), (1, .slice A1 x1.length c1), (10, .bool false)] [.is ((((x0.length : Int) : Int) != (x1.length : Int)) = false)] hf2 (by kernel_rfl) ⟨(neF c3), trivial⟩ fun a4 hf5 => ?_
    refine thenN ?_
    refine condF hf5 (by kernel_rfl) ?_
    refine wp_skip ?_
    refine thenN ?_
    refine wp_seq ?_
    refine wp_seq ?_
    refine reg [] [0, 1, 5] [(0, .slice A0 x0.length c0), (1, .slice A1 x1.length c1), (5, .int .i64 0)] [] hf5 (by kernel_rfl) trivial fun a6 hf7 => ?_
    refine thenN ?_
    obtain ⟨r9, hr9, H0⟩ := ob_split H0
    refine wpBlock (Mid := fun (a : Act) (w : World) => ∃ yr9 : Int, r9 = .go yr9 ∧ Fr 26 a [(0, .slice A0 x0.length c0), (1, .slice A1 x1.length c1), (5, .int .i64 yr9)] ∧ Mem [] M w0 [.sl (Kd.int .i64) A0 c0 x0, .sl (Kd.int .i64) A1 c1 x1] w) ?_ ?_
    · refine wpLoop (ref1_SameInts.l0 x0 x1) r9 (fun (s8 : Int) (a : Act) (w : World) => Fr 26 a [(0, .slice A0 x0.length c0), (1, .slice A1 x1.length c1), (5, .int .i64 s8)] ∧ Mem [] M w0 [.sl (Kd.int .i64) A0 c0 x0, .sl (Kd.int .i64) A1 c1 x1] w) 0 hr9 ⟨hf7.sel (l := [0, 1, 5]) (by kernel_rfl), hm0.sel [0, 1] _ rfl (by kernel_rfl)⟩ ?_
      rintro g10 s8 a11 w12 H1 ⟨hf13, hm14⟩
      unfold ref1_SameInts.l0 at H1
      refine wp_seq ?_
      refine wp_seq ?_
      rcases ifS_split H1 with ⟨c15, H1⟩ | ⟨c15, H1⟩
      · refine reg [.bool true] [0, 1, 5, 14] [(0, .slice A0 x0.length c0), (1, .slice A1 x1.length c1), (5, .int .i64 s8), (14, .bool true)] [.is (decide (s8 < (x0.length : Int)) = true)] hf13 (by kernel_rfl) ⟨(decide_eq_true c15), trivial⟩ fun a16 hf17 => ?_
        refine thenN ?_
        refine condT hf17 (by kernel_rfl) ?_
        refine wp_skip ?_
        refine thenN ?_
        refine wp_seq ?_
        refine wp_block ?_
        refine wp_seq ?_
        obtain ⟨g18, H1⟩ := ifS_guard H1
        obtain ⟨g19, H1⟩ := ifS_guard H1
        rcases ifS_split H1 with ⟨c20, H1⟩ | ⟨c20, H1⟩
        · have q21 := (hm14.slAt 0 rfl).int s8 g18.1 g18.2
          have q22 := (hm14.slAt 1 rfl).int s8 g19.1 g19.2
          refine regQ [.int .i64 (rd x0 s8), .int .i64 (rd x1 s8), .bool false] [0, 1, 5, 25] [(0, .slice A0 x0.length c0), (1, .slice A1 x1.length c1), (5, .int .i64 s8), (25, .bool false)] [.is (Option.isSome A0 = true), .is (0 ≤ s8 ∧ s8 < (x0.length : Int)), .cell ((ad A0).add ((s8).toNat * 1)) (.int .i64 (rd x0 s8)), .is (Option.isSome A1 = true), .is (0 ≤ s8 ∧ s8 < (x1.length : Int)), .cell ((ad A1).add ((s8).toNat * 1)) (.int .i64 (rd x1 s8)), .is ((((rd x0 s8) : Int) != (rd x1 s8)) = false)] (by kernel_rfl) (by kernel_rfl) hf17 (by kernel_rfl) ⟨q21.1, g18, q21.2, q22.1, g19, q22.2, (neF c20), trivial⟩ fun a23 w25 hf24 hg26 => ?_
          have hm27 : Mem [] M w0 [.sl (Kd.int .i64) A0 c0 x0, .sl (Kd.int .i64) A1 c1 x1] w25 := hm14.still hg26
          refine thenN ?_
          refine condF hf24 (by kernel_rfl) ?_
          refine wp_skip ?_
          refine blkN ?_
          refine thenN ?_
          refine reg [] [0, 1, 5] [(0, .slice A0 x0.length c0), (1, .slice A1 x1.length c1), (5, .int .i64 (w64 (s8 + 1)))] [] hf24 (by kernel_rfl) trivial fun a28 hf29 => ?_
          exact ⟨(w64 (s8 + 1)), H1, hf29.sel (l := [0, 1, 5]) (by kernel_rfl), hm27.sel [0, 1] _ rfl (by kernel_rfl)⟩
        · have q30 := (hm14.slAt 0 rfl).int s8 g18.1 g18.2
          have q31 := (hm14.slAt 1 rfl).int s8 g19.1 g19.2
          refine regQ [.int .i64 (rd x0 s8), .int .i64 (rd x1 s8), .bool true] [0, 1, 5, 25] [(0, .slice A0 x0.length c0), (1, .slice A1 x1.length c1), (5, .int .i64 s8), (25, .bool true)] [.is (Option.isSome A0 = true), .is (0 ≤ s8 ∧ s8 < (x0.length : Int)), .cell ((ad A0).add ((s8).toNat * 1)) (.int .i64 (rd x0 s8)), .is (Option.isSome A1 = true), .is (0 ≤ s8 ∧ s8 < (x1.length : Int)), .cell ((ad A1).add ((s8).toNat * 1)) (.int .i64 (rd x1 s8)), .is ((((rd x0 s8) : Int) != (rd x1 s8)) = true)] (by kernel_rfl) (by kernel_rfl) hf17 (by kernel_rfl) ⟨q30.1, g18, q30.2, q31.1, g19, q31.2, (neT c20), trivial⟩ fun a32 w34 hf33 hg35 => ?_
          have hm36 : Mem [] M w0 [.sl (Kd.int .i64) A0 c0 x0, .sl (Kd.int .i64) A1 c1 x1] w34 := hm14.still hg35
          refine thenN ?_
          refine condT hf33 (by kernel_rfl) ?_
          refine wp_seq ?_
          refine reg [] [4] [(4, .bool false)] [] hf33 (by kernel_rfl) trivial fun a37 hf38 => ?_
          have hm39 : Mem [] M w0 [] w34 := hm36.sel [] _ rfl (by kernel_rfl)
          refine thenN ?_
          refine wp_ret ?_
          refine blkR ?_
          refine thenR ?_
          refine thenR ?_
          refine .inr ⟨rfl, ?_⟩
          refine thenR ?_
          have hm40 : Mem [] M w0 [] w34 := hm39.sel [] _ rfl (by kernel_rfl)
          obtain rfl := Option.some.inj H1
          obtain rfl := Option.some.inj H0
          refine ret [] [.bool false] [] hf38 (by kernel_rfl) trivial ?_
          exact ⟨_, rfl, rfl, hm40⟩
      · refine reg [.bool false] [0, 1, 5, 14] [(0, .slice A0 x0.length c0), (1, .slice A1 x1.length c1), (5, .int .i64 s8), (14, .bool false)] [.is (decide (s8 < (x0.length : Int)) = false)] hf13 (by kernel_rfl) ⟨(decide_eq_false c15), trivial⟩ fun a42 hf43 => ?_
        refine thenN ?_
        refine condF hf43 (by kernel_rfl) ?_
        refine wp_exit ?_
        refine thenE ?_
        refine thenE ?_
        obtain rfl := Option.some.inj H1
        exact .inl ⟨rfl, s8, rfl, hf43.sel (l := [0, 1, 5]) (by kernel_rfl), hm14.sel [0, 1] _ rfl (by kernel_rfl)⟩
    rintro a44 w45 ⟨yr9, rfl, hf46, hm47⟩
    refine thenN ?_
    refine wp_seq ?_
    refine reg [] [4] [(4, .bool true)] [] hf46 (by kernel_rfl) trivial fun a48 hf49 => ?_
    have hm50 : Mem [] M w0 [] w45 := hm47.sel [] _ rfl (by kernel_rfl)
    refine thenN ?_
    refine wp_ret ?_
    have hm51 : Mem [] M w0 [] w45 := hm50.sel [] _ rfl (by kernel_rfl)
    obtain rfl := Option.some.inj H0
    refine ret [] [.bool true] [] hf49 (by kernel_rfl) trivial ?_
    exact ⟨_, rfl, rfl, hm51⟩
  · refine reg [.bool true] [0, 1, 10] [(0, .slice A0 x0.length c0), (1, .slice A1 x1.length c1), (10, .bool true)] [.is ((((x0.length : Int) : Int) != (x1.length : Int)) = true)] hf2 (by kernel_rfl) ⟨(neT c3), trivial⟩ fun a53 hf54 => ?_
    refine thenN ?_
    refine condT hf54 (by kernel_rfl) ?_
    refine wp_seq ?_
    refine reg [] [4] [(4, .bool false)] [] hf54 (by kernel_rfl) trivial fun a55 hf56 => ?_
    have hm57 : Mem [] M w0 [] w0 := hm0.sel [] _ rfl (by kernel_rfl)
    refine thenN ?_
    refine wp_ret ?_
    refine thenR ?_
    have hm58 : Mem [] M w0 [] w0 := hm57.sel [] _ rfl (by kernel_rfl)
    obtain rfl := Option.some.inj H0
    refine ret [] [.bool false] [] hf56 (by kernel_rfl) trivial ?_
    exact ⟨_, rfl, rfl, hm58⟩

/-! ### backstitch/backstitchlaw1.awake -/
noncomputable def law1_awake.f  : Option Bool :=
  (shape_Spread.f ([3, 1] : List Int) ([2] : List Int)).bind fun r3 =>
  if r3.2 = 0 then ((shape_Same.f r3.1 ([3, 2] : List Int)).bind fun r30 =>
  if r30 = true then ((shape_May.f r3.1).bind fun r32 =>
  if r32 = true then ((shape_Index.f r3.1 ([2, 1] : List Int)).bind fun r34 =>
  if r34 = 5 then ((shape_Strides.f r3.1).bind fun r36 =>
  (ref1_SameInts.f r36 ([2, 1] : List Int)).bind fun r37 =>
  some r37)
  else (some false))
  else (some false))
  else (some false))
  else (some false)
set_option maxRecDepth 100000 in
set_option maxHeartbeats 4000000 in
theorem law1_awake.calls (M : List (Option Nat)) (w0 : World)  (hm0 : Mem [] M w0 [] w0) (r : Bool) (H0 : law1_awake.f = some r) :
    Calls Try.prog 9 [].toArray w0 (fun x w' => ∃ v, x = .returned v ∧ v = .bool r ∧ Mem [] M w0 [] w') := by
  unfold law1_awake.f at H0
  refine enter (n := 32) Try.func9 rfl rfl (by kernel_rfl) fun a0 (hf0 : Fr 32 a0 []) => ?_
  refine wp_seq ?_
  refine reg [] [] [] [] hf0 (by kernel_rfl) trivial fun a1 hf2 => ?_
  refine thenN ?_
  refine wp_seq ?_
  obtain ⟨r3, hr3, H0⟩ := ob_split H0
  refine inReg ?_
  refine listOf hf2 rfl (by kernel_rfl) (aLit (cs := [.int .i64 3, .int .i64 1]) (E := 3) (len := 2) (d := 4) hf2 (by kernel_rfl) (by kernel_rfl) ?_)
  intro b4 w5 a6 hbb4 hx8 hg9 hf7
  have hm0s := hm0.still hg9
  have hm10 : Mem [] M w0 [.sl (Kd.int .i64) (some ⟨b4, 0, none⟩) 2 ([3, 1] : List Int)] w5 := Mem.lit (kd := (Kd.int .i64)) (xs := ([3, 1] : List Int)) hm0 hbb4 hx8 hg9 (Els.append (Els.one (kd := (Kd.int .i64)) (us := [.int .i64 3]) (x := 3) rfl) (Els.one (kd := (Kd.int .i64)) (us := [.int .i64 1]) (x := 1) rfl))
  refine listOf hf7 rfl (by kernel_rfl) (aLit (cs := [.int .i64 2]) (E := 3) (len := 1) (d := 5) hf7 (by kernel_rfl) (by kernel_rfl) ?_)
  intro b11 w12 a13 hbb11 hx15 hg16 hf14
  have hm10s := hm10.still hg16
  have hm17 : Mem [] M w0 [.sl (Kd.int .i64) (some ⟨b11, 0, none⟩) 1 ([2] : List Int), .sl (Kd.int .i64) (some ⟨b4, 0, none⟩) 2 ([3, 1] : List Int)] w12 := Mem.lit (kd := (Kd.int .i64)) (xs := ([2] : List Int)) hm10 hbb11 hx15 hg16 (Els.one (kd := (Kd.int .i64)) (us := [.int .i64 2]) (x := 2) rfl)
  refine listOf hf14 rfl (by kernel_rfl) (aCall (fid := 10) (args := [.slice (some ⟨b4, 0, none⟩) 2 2, .slice (some ⟨b11, 0, none⟩) 1 1]) (d := 6) hf14 (by kernel_rfl) (by kernel_rfl) callable10 (shape_Spread.calls _ _ ([3, 1] : List Int) (some ⟨b4, 0, none⟩) 2 2 rfl ([2] : List Int) (some ⟨b11, 0, none⟩) 1 1 rfl (hm17.give [1, 0] [.sl (Kd.int .i64) (some ⟨b4, 0, none⟩) 2 ([3, 1] : List Int), .sl (Kd.int .i64) (some ⟨b11, 0, none⟩) 1 ([2] : List Int)] rfl rfl) r3 hr3) ?_)
  rintro _ w20 a21 ⟨A18, c19, rfl, hk23⟩ hf22
  have hm24 : Mem [] M w0 [.ow (Kd.int .i64) 3 A18 c19 r3.1, .sl (Kd.int .i64) (some ⟨b11, 0, none⟩) 1 ([2] : List Int), .sl (Kd.int .i64) (some ⟨b4, 0, none⟩) 2 ([3, 1] : List Int)] w20 := hm17.back hk23
  have hm25 : Mem [] M w0 [.sl (Kd.int .i64) A18 c19 r3.1, .sl (Kd.int .i64) (some ⟨b11, 0, none⟩) 1 ([2] : List Int), .sl (Kd.int .i64) (some ⟨b4, 0, none⟩) 2 ([3, 1] : List Int)] w20 := hm24.seal 0 _ rfl rfl
  refine go 5 [] [1, 2] [(1, .slice A18 r3.1.length c19), (2, .int .i64 r3.2)] [] hf22 (by kernel_rfl) trivial fun a26 hf27 => ?_
  refine endL rfl ?_
  have hm28 : Mem [] M w0 [.sl (Kd.int .i64) A18 c19 r3.1] w20 := hm25.sel [0] _ rfl (by kernel_rfl)
  refine thenN ?_
  refine wp_seq ?_
  rcases if_split H0 with ⟨c29, H0⟩ | ⟨c29, H0⟩
  · obtain ⟨r30, hr30, H0⟩ := ob_split H0
    rcases ifb_split H0 with ⟨c31, H0⟩ | ⟨c31, H0⟩
    · obtain ⟨r32, hr32, H0⟩ := ob_split H0
      rcases ifb_split H0 with ⟨c33, H0⟩ | ⟨c33, H0⟩
      · obtain ⟨r34, hr34, H0⟩ := ob_split H0
        rcases if_split H0 with ⟨c35, H0⟩ | ⟨c35, H0⟩
        · obtain ⟨r36, hr36, H0⟩ := ob_split H0
          obtain ⟨r37, hr37, H0⟩ := ob_split H0
          refine inReg ?_
          refine go 4 [.bool true] [1, 11, 12] [(1, .slice A18 r3.1.length c19), (11, .bool true), (12, .slice A18 r3.1.length c19)] [.is (((r3.2 : Int) == 0) = true)] hf27 (by kernel_rfl) ⟨(eqT c29), trivial⟩ fun a38 hf39 => ?_
          refine listOf hf39 rfl (by kernel_rfl) (aLit (cs := [.int .i64 3, .int .i64 2]) (E := 3) (len := 2) (d := 13) hf39 (by kernel_rfl) (by kernel_rfl) ?_)
          intro b40 w41 a42 hbb40 hx44 hg45 hf43
          have hm28s := hm28.still hg45
          have hm46 : Mem [] M w0 [.sl (Kd.int .i64) (some ⟨b40, 0, none⟩) 2 ([3, 2] : List Int), .sl (Kd.int .i64) A18 c19 r3.1] w41 := Mem.lit (kd := (Kd.int .i64)) (xs := ([3, 2] : List Int)) hm28 hbb40 hx44 hg45 (Els.append (Els.one (kd := (Kd.int .i64)) (us := [.int .i64 3]) (x := 3) rfl) (Els.one (kd := (Kd.int .i64)) (us := [.int .i64 2]) (x := 2) rfl))
          refine listOf hf43 rfl (by kernel_rfl) (aCall (fid := 16) (args := [.slice A18 r3.1.length c19, .slice (some ⟨b40, 0, none⟩) 2 2]) (d := 14) hf43 (by kernel_rfl) (by kernel_rfl) callable16 (shape_Same.calls _ _ r3.1 A18 r3.1.length c19 rfl ([3, 2] : List Int) (some ⟨b40, 0, none⟩) 2 2 rfl (hm46.give [1, 0] [.sl (Kd.int .i64) A18 c19 r3.1, .sl (Kd.int .i64) (some ⟨b40, 0, none⟩) 2 ([3, 2] : List Int)] rfl rfl) r30 hr30) ?_)
          rintro _ w47 a48 ⟨rfl, hk50⟩ hf49
          have hm51 : Mem [] M w0 [.sl (Kd.int .i64) (some ⟨b40, 0, none⟩) 2 ([3, 2] : List Int), .sl (Kd.int .i64) A18 c19 r3.1] w47 := hm46.still hk50.cum.none
          rw [c31] at hf49
          refine go 3 [] [1, 16, 17] [(1, .slice A18 r3.1.length c19), (16, .bool true), (17, .slice A18 r3.1.length c19)] [] hf49 (by kernel_rfl) trivial fun a52 hf53 => ?_
          refine listOf hf53 rfl (by kernel_rfl) (aCall (fid := 19) (args := [.slice A18 r3.1.length c19]) (d := 18) hf53 (by kernel_rfl) (by kernel_rfl) callable19 (shape_May.calls _ _ r3.1 A18 r3.1.length c19 rfl (hm51.give [1] [.sl (Kd.int .i64) A18 c19 r3.1] rfl rfl) r32 hr32) ?_)
          rintro _ w54 a55 ⟨rfl, hk57⟩ hf56
          have hm58 : Mem [] M w0 [.sl (Kd.int .i64) (some ⟨b40, 0, none⟩) 2 ([3, 2] : List Int), .sl (Kd.int .i64) A18 c19 r3.1] w54 := hm51.still hk57.cum.none
          rw [c33] at hf56
          refine go 3 [] [1, 20, 21] [(1, .slice A18 r3.1.length c19), (20, .bool true), (21, .slice A18 r3.1.length c19)] [] hf56 (by kernel_rfl) trivial fun a59 hf60 => ?_
          refine listOf hf60 rfl (by kernel_rfl) (aLit (cs := [.int .i64 2, .int .i64 1]) (E := 3) (len := 2) (d := 22) hf60 (by kernel_rfl) (by kernel_rfl) ?_)
          intro b61 w62 a63 hbb61 hx65 hg66 hf64
          have hm58s := hm58.still hg66
          have hm67 : Mem [] M w0 [.sl (Kd.int .i64) (some ⟨b61, 0, none⟩) 2 ([2, 1] : List Int), .sl (Kd.int .i64) (some ⟨b40, 0, none⟩) 2 ([3, 2] : List Int), .sl (Kd.int .i64) A18 c19 r3.1] w62 := Mem.lit (kd := (Kd.int .i64)) (xs := ([2, 1] : List Int)) hm58 hbb61 hx65 hg66 (Els.append (Els.one (kd := (Kd.int .i64)) (us := [.int .i64 2]) (x := 2) rfl) (Els.one (kd := (Kd.int .i64)) (us := [.int .i64 1]) (x := 1) rfl))
          refine listOf hf64 rfl (by kernel_rfl) (aCall (fid := 17) (args := [.slice A18 r3.1.length c19, .slice (some ⟨b61, 0, none⟩) 2 2]) (d := 23) hf64 (by kernel_rfl) (by kernel_rfl) callable17 (shape_Index.calls _ _ r3.1 A18 r3.1.length c19 rfl ([2, 1] : List Int) (some ⟨b61, 0, none⟩) 2 2 rfl (hm67.give [2, 0] [.sl (Kd.int .i64) A18 c19 r3.1, .sl (Kd.int .i64) (some ⟨b61, 0, none⟩) 2 ([2, 1] : List Int)] rfl rfl) r34 hr34) ?_)
          rintro _ w68 a69 ⟨rfl, hk71⟩ hf70
          have hm72 : Mem [] M w0 [.sl (Kd.int .i64) (some ⟨b61, 0, none⟩) 2 ([2, 1] : List Int), .sl (Kd.int .i64) (some ⟨b40, 0, none⟩) 2 ([3, 2] : List Int), .sl (Kd.int .i64) A18 c19 r3.1] w68 := hm67.still hk71.cum.none
          refine go 4 [.bool true] [26, 27] [(26, .bool true), (27, .slice A18 r3.1.length c19)] [.is (((r34 : Int) == 5) = true)] hf70 (by kernel_rfl) ⟨(eqT c35), trivial⟩ fun a73 hf74 => ?_
          refine listOf hf74 rfl (by kernel_rfl) (aCall (fid := 21) (args := [.slice A18 r3.1.length c19]) (d := 28) hf74 (by kernel_rfl) (by kernel_rfl) callable21 (shape_Strides.calls _ _ r3.1 A18 r3.1.length c19 rfl (hm72.give [2] [.sl (Kd.int .i64) A18 c19 r3.1] rfl rfl) r36 hr36) ?_)
          rintro _ w77 a78 ⟨A75, c76, rfl, hk80⟩ hf79
          have hm81 : Mem [] M w0 [.ow (Kd.int .i64) 3 A75 c76 r36, .sl (Kd.int .i64) (some ⟨b61, 0, none⟩) 2 ([2, 1] : List Int), .sl (Kd.int .i64) (some ⟨b40, 0, none⟩) 2 ([3, 2] : List Int), .sl (Kd.int .i64) A18 c19 r3.1] w77 := hm72.back hk80
          have hm82 : Mem [] M w0 [.sl (Kd.int .i64) A75 c76 r36, .sl (Kd.int .i64) (some ⟨b61, 0, none⟩) 2 ([2, 1] : List Int), .sl (Kd.int .i64) (some ⟨b40, 0, none⟩) 2 ([3, 2] : List Int), .sl (Kd.int .i64) A18 c19 r3.1] w77 := hm81.seal 0 _ rfl rfl
          refine listOf hf79 rfl (by kernel_rfl) (aLit (cs := [.int .i64 2, .int .i64 1]) (E := 3) (len := 2) (d := 29) hf79 (by kernel_rfl) (by kernel_rfl) ?_)
          intro b83 w84 a85 hbb83 hx87 hg88 hf86
          have hm82s := hm82.still hg88
          have hm89 : Mem [] M w0 [.sl (Kd.int .i64) (some ⟨b83, 0, none⟩) 2 ([2, 1] : List Int), .sl (Kd.int .i64) A75 c76 r36, .sl (Kd.int .i64) (some ⟨b61, 0, none⟩) 2 ([2, 1] : List Int), .sl (Kd.int .i64) (some ⟨b40, 0, none⟩) 2 ([3, 2] : List Int), .sl (Kd.int .i64) A18 c19 r3.1] w84 := Mem.lit (kd := (Kd.int .i64)) (xs := ([2, 1] : List Int)) hm82 hbb83 hx87 hg88 (Els.append (Els.one (kd := (Kd.int .i64)) (us := [.int .i64 2]) (x := 2) rfl) (Els.one (kd := (Kd.int .i64)) (us := [.int .i64 1]) (x := 1) rfl))
          refine listOf hf86 rfl (by kernel_rfl) (aCall (fid := 12) (args := [.slice A75 r36.length c76, .slice (some ⟨b83, 0, none⟩) 2 2]) (d := 30) hf86 (by kernel_rfl) (by kernel_rfl) callable12 (ref1_SameInts.calls _ _ r36 A75 r36.length c76 rfl ([2, 1] : List Int) (some ⟨b83, 0, none⟩) 2 2 rfl (hm89.give [1, 0] [.sl (Kd.int .i64) A75 c76 r36, .sl (Kd.int .i64) (some ⟨b83, 0, none⟩) 2 ([2, 1] : List Int)] rfl rfl) r37 hr37) ?_)
          rintro _ w90 a91 ⟨rfl, hk93⟩ hf92
          have hm94 : Mem [] M w0 [.sl (Kd.int .i64) (some ⟨b83, 0, none⟩) 2 ([2, 1] : List Int), .sl (Kd.int .i64) A75 c76 r36, .sl (Kd.int .i64) (some ⟨b61, 0, none⟩) 2 ([2, 1] : List Int), .sl (Kd.int .i64) (some ⟨b40, 0, none⟩) 2 ([3, 2] : List Int), .sl (Kd.int .i64) A18 c19 r3.1] w90 := hm89.still hk93.cum.none
          refine go 2 [] [0] [(0, .bool r37)] [] hf92 (by kernel_rfl) trivial fun a95 hf96 => ?_
          refine endL rfl ?_
          have hm97 : Mem [] M w0 [] w90 := hm94.sel [] _ rfl (by kernel_rfl)
          refine thenN ?_
          refine wp_ret ?_
          have hm98 : Mem [] M w0 [] w90 := hm97.sel [] _ rfl (by kernel_rfl)
          obtain rfl := Option.some.inj H0
          refine ret [] [.bool r37] [] hf96 (by kernel_rfl) trivial ?_
          exact ⟨_, rfl, rfl, hm98⟩
        · refine inReg ?_
          refine go 4 [.bool true] [1, 11, 12] [(1, .slice A18 r3.1.length c19), (11, .bool true), (12, .slice A18 r3.1.length c19)] [.is (((r3.2 : Int) == 0) = true)] hf27 (by kernel_rfl) ⟨(eqT c29), trivial⟩ fun a100 hf101 => ?_
          refine listOf hf101 rfl (by kernel_rfl) (aLit (cs := [.int .i64 3, .int .i64 2]) (E := 3) (len := 2) (d := 13) hf101 (by kernel_rfl) (by kernel_rfl) ?_)
          intro b102 w103 a104 hbb102 hx106 hg107 hf105
          have hm28s := hm28.still hg107
          have hm108 : Mem [] M w0 [.sl (Kd.int .i64) (some ⟨b102, 0, none⟩) 2 ([3, 2] : List Int), .sl (Kd.int .i64) A18 c19 r3.1] w103 := Mem.lit (kd := (Kd.int .i64)) (xs := ([3, 2] : List Int)) hm28 hbb102 hx106 hg107 (Els.append (Els.one (kd := (Kd.int .i64)) (us := [.int .i64 3]) (x := 3) rfl) (Els.one (kd := (Kd.int .i64)) (us := [.int .i64 2]) (x := 2) rfl))
          refine listOf hf105 rfl (by kernel_rfl) (aCall (fid := 16) (args := [.slice A18 r3.1.length c19, .slice (some ⟨b102, 0, none⟩) 2 2]) (d := 14) hf105 (by kernel_rfl) (by kernel_rfl) callable16 (shape_Same.calls _ _ r3.1 A18 r3.1.length c19 rfl ([3, 2] : List Int) (some ⟨b102, 0, none⟩) 2 2 rfl (hm108.give [1, 0] [.sl (Kd.int .i64) A18 c19 r3.1, .sl (Kd.int .i64) (some ⟨b102, 0, none⟩) 2 ([3, 2] : List Int)] rfl rfl) r30 hr30) ?_)
          rintro _ w109 a110 ⟨rfl, hk112⟩ hf111
          have hm113 : Mem [] M w0 [.sl (Kd.int .i64) (some ⟨b102, 0, none⟩) 2 ([3, 2] : List Int), .sl (Kd.int .i64) A18 c19 r3.1] w109 := hm108.still hk112.cum.none
          rw [c31] at hf111
          refine go 3 [] [1, 16, 17] [(1, .slice A18 r3.1.length c19), (16, .bool true), (17, .slice A18 r3.1.length c19)] [] hf111 (by kernel_rfl) trivial fun a114 hf115 => ?_
          refine listOf hf115 rfl (by kernel_rfl) (aCall (fid := 19) (args := [.slice A18 r3.1.length c19]) (d := 18) hf115 (by kernel_rfl) (by kernel_rfl) callable19 (shape_May.calls _ _ r3.1 A18 r3.1.length c19 rfl (hm113.give [1] [.sl (Kd.int .i64) A18 c19 r3.1] rfl rfl) r32 hr32) ?_)
          rintro _ w116 a117 ⟨rfl, hk119⟩ hf118
          have hm120 : Mem [] M w0 [.sl (Kd.int .i64) (some ⟨b102, 0, none⟩) 2 ([3, 2] : List Int), .sl (Kd.int .i64) A18 c19 r3.1] w116 := hm113.still hk119.cum.none
          rw [c33] at hf118
          refine go 3 [] [1, 20, 21] [(1, .slice A18 r3.1.length c19), (20, .bool true), (21, .slice A18 r3.1.length c19)] [] hf118 (by kernel_rfl) trivial fun a121 hf122 => ?_
          refine listOf hf122 rfl (by kernel_rfl) (aLit (cs := [.int .i64 2, .int .i64 1]) (E := 3) (len := 2) (d := 22) hf122 (by kernel_rfl) (by kernel_rfl) ?_)
          intro b123 w124 a125 hbb123 hx127 hg128 hf126
          have hm120s := hm120.still hg128
          have hm129 : Mem [] M w0 [.sl (Kd.int .i64) (some ⟨b123, 0, none⟩) 2 ([2, 1] : List Int), .sl (Kd.int .i64) (some ⟨b102, 0, none⟩) 2 ([3, 2] : List Int), .sl (Kd.int .i64) A18 c19 r3.1] w124 := Mem.lit (kd := (Kd.int .i64)) (xs := ([2, 1] : List Int)) hm120 hbb123 hx127 hg128 (Els.append (Els.one (kd := (Kd.int .i64)) (us := [.int .i64 2]) (x := 2) rfl) (Els.one (kd := (Kd.int .i64)) (us := [.int .i64 1]) (x := 1) rfl))
          refine listOf hf126 rfl (by kernel_rfl) (aCall (fid := 17) (args := [.slice A18 r3.1.length c19, .slice (some ⟨b123, 0, none⟩) 2 2]) (d := 23) hf126 (by kernel_rfl) (by kernel_rfl) callable17 (shape_Index.calls _ _ r3.1 A18 r3.1.length c19 rfl ([2, 1] : List Int) (some ⟨b123, 0, none⟩) 2 2 rfl (hm129.give [2, 0] [.sl (Kd.int .i64) A18 c19 r3.1, .sl (Kd.int .i64) (some ⟨b123, 0, none⟩) 2 ([2, 1] : List Int)] rfl rfl) r34 hr34) ?_)
          rintro _ w130 a131 ⟨rfl, hk133⟩ hf132
          have hm134 : Mem [] M w0 [.sl (Kd.int .i64) (some ⟨b123, 0, none⟩) 2 ([2, 1] : List Int), .sl (Kd.int .i64) (some ⟨b102, 0, none⟩) 2 ([3, 2] : List Int), .sl (Kd.int .i64) A18 c19 r3.1] w130 := hm129.still hk133.cum.none
          refine go 9 [.bool false] [0] [(0, .bool false)] [.is (((r34 : Int) == 5) = false)] hf132 (by kernel_rfl) ⟨(eqF c35), trivial⟩ fun a135 hf136 => ?_
          refine endL rfl ?_
          have hm137 : Mem [] M w0 [] w130 := hm134.sel [] _ rfl (by kernel_rfl)
          refine thenN ?_
          refine wp_ret ?_
          have hm138 : Mem [] M w0 [] w130 := hm137.sel [] _ rfl (by kernel_rfl)
          obtain rfl := Option.some.inj H0
          refine ret [] [.bool false] [] hf136 (by kernel_rfl) trivial ?_
          exact ⟨_, rfl, rfl, hm138⟩
      · refine inReg ?_
        refine go 4 [.bool true] [1, 11, 12] [(1, .slice A18 r3.1.length c19), (11, .bool true), (12, .slice A18 r3.1.length c19)] [.is (((r3.2 : Int) == 0) = true)] hf27 (by kernel_rfl) ⟨(eqT c29), trivial⟩ fun a140 hf141 => ?_
        refine listOf hf141 rfl (by kernel_rfl) (aLit (cs := [.int .i64 3, .int .i64 2]) (E := 3) (len := 2) (d := 13) hf141 (by kernel_rfl) (by kernel_rfl) ?_)
        intro b142 w143 a144 hbb142 hx146 hg147 hf145
        have hm28s := hm28.still hg147
        have hm148 : Mem [] M w0 [.sl (Kd.int .i64) (some ⟨b142, 0, none⟩) 2 ([3, 2] : List Int), .sl (Kd.int .i64) A18 c19 r3.1] w143 := Mem.lit (kd := (Kd.int .i64)) (xs := ([3, 2] : List Int)) hm28 hbb142 hx146 hg147 (Els.append (Els.one (kd := (Kd.int .i64)) (us := [.int .i64 3]) (x := 3) rfl) (Els.one (kd := (Kd.int .i64)) (us := [.int .i64 2]) (x := 2) rfl))
        refine listOf hf145 rfl (by kernel_rfl) (aCall (fid := 16) (args := [.slice A18 r3.1.length c19, .slice (some ⟨b142, 0, none⟩) 2 2]) (d := 14) hf145 (by kernel_rfl) (by kernel_rfl) callable16 (shape_Same.calls _ _ r3.1 A18 r3.1.length c19 rfl ([3, 2] : List Int) (some ⟨b142, 0, none⟩) 2 2 rfl (hm148.give [1, 0] [.sl (Kd.int .i64) A18 c19 r3.1, .sl (Kd.int .i64) (some ⟨b142, 0, none⟩) 2 ([3, 2] : List Int)] rfl rfl) r30 hr30) ?_)
        rintro _ w149 a150 ⟨rfl, hk152⟩ hf151
        have hm153 : Mem [] M w0 [.sl (Kd.int .i64) (some ⟨b142, 0, none⟩) 2 ([3, 2] : List Int), .sl (Kd.int .i64) A18 c19 r3.1] w149 := hm148.still hk152.cum.none
        rw [c31] at hf151
        refine go 3 [] [1, 16, 17] [(1, .slice A18 r3.1.length c19), (16, .bool true), (17, .slice A18 r3.1.length c19)] [] hf151 (by kernel_rfl) trivial fun a154 hf155 => ?_
        refine listOf hf155 rfl (by kernel_rfl) (aCall (fid := 19) (args := [.slice A18 r3.1.length c19]) (d := 18) hf155 (by kernel_rfl) (by kernel_rfl) callable19 (shape_May.calls _ _ r3.1 A18 r3.1.length c19 rfl (hm153.give [1] [.sl (Kd.int .i64) A18 c19 r3.1] rfl rfl) r32 hr32) ?_)
        rintro _ w156 a157 ⟨rfl, hk159⟩ hf158
        have hm160 : Mem [] M w0 [.sl (Kd.int .i64) (some ⟨b142, 0, none⟩) 2 ([3, 2] : List Int), .sl (Kd.int .i64) A18 c19 r3.1] w156 := hm153.still hk159.cum.none
        rw [c33] at hf158
        refine go 14 [] [0] [(0, .bool false)] [] hf158 (by kernel_rfl) trivial fun a161 hf162 => ?_
        refine endL rfl ?_
        have hm163 : Mem [] M w0 [] w156 := hm160.sel [] _ rfl (by kernel_rfl)
        refine thenN ?_
        refine wp_ret ?_
        have hm164 : Mem [] M w0 [] w156 := hm163.sel [] _ rfl (by kernel_rfl)
        obtain rfl := Option.some.inj H0
        refine ret [] [.bool false] [] hf162 (by kernel_rfl) trivial ?_
        exact ⟨_, rfl, rfl, hm164⟩
    · refine inReg ?_
      refine go 4 [.bool true] [1, 11, 12] [(1, .slice A18 r3.1.length c19), (11, .bool true), (12, .slice A18 r3.1.length c19)] [.is (((r3.2 : Int) == 0) = true)] hf27 (by kernel_rfl) ⟨(eqT c29), trivial⟩ fun a166 hf167 => ?_
      refine listOf hf167 rfl (by kernel_rfl) (aLit (cs := [.int .i64 3, .int .i64 2]) (E := 3) (len := 2) (d := 13) hf167 (by kernel_rfl) (by kernel_rfl) ?_)
      intro b168 w169 a170 hbb168 hx172 hg173 hf171
      have hm28s := hm28.still hg173
      have hm174 : Mem [] M w0 [.sl (Kd.int .i64) (some ⟨b168, 0, none⟩) 2 ([3, 2] : List Int), .sl (Kd.int .i64) A18 c19 r3.1] w169 := Mem.lit (kd := (Kd.int .i64)) (xs := ([3, 2] : List Int)) hm28 hbb168 hx172 hg173 (Els.append (Els.one (kd := (Kd.int .i64)) (us := [.int .i64 3]) (x := 3) rfl) (Els.one (kd := (Kd.int .i64)) (us := [.int .i64 2]) (x := 2) rfl))
      refine listOf hf171 rfl (by kernel_rfl) (aCall (fid := 16) (args := [.slice A18 r3.1.length c19, .slice (some ⟨b168, 0, none⟩) 2 2]) (d := 14) hf171 (by kernel_rfl) (by kernel_rfl) callable16 (shape_Same.calls _ _ r3.1 A18 r3.1.length c19 rfl ([3, 2] : List Int) (some ⟨b168, 0, none⟩) 2 2 rfl (hm174.give [1, 0] [.sl (Kd.int .i64) A18 c19 r3.1, .sl (Kd.int .i64) (some ⟨b168, 0, none⟩) 2 ([3, 2] : List Int)] rfl rfl) r30 hr30) ?_)
      rintro _ w175 a176 ⟨rfl, hk178⟩ hf177
      have hm179 : Mem [] M w0 [.sl (Kd.int .i64) (some ⟨b168, 0, none⟩) 2 ([3, 2] : List Int), .sl (Kd.int .i64) A18 c19 r3.1] w175 := hm174.still hk178.cum.none
      rw [c31] at hf177
      refine go 18 [] [0] [(0, .bool false)] [] hf177 (by kernel_rfl) trivial fun a180 hf181 => ?_
      refine endL rfl ?_
      have hm182 : Mem [] M w0 [] w175 := hm179.sel [] _ rfl (by kernel_rfl)
      refine thenN ?_
      refine wp_ret ?_
      have hm183 : Mem [] M w0 [] w175 := hm182.sel [] _ rfl (by kernel_rfl)
      obtain rfl := Option.some.inj H0
      refine ret [] [.bool false] [] hf181 (by kernel_rfl) trivial ?_
      exact ⟨_, rfl, rfl, hm183⟩
  · refine reg [.bool false] [0] [(0, .bool false)] [.is (((r3.2 : Int) == 0) = false)] hf27 (by kernel_rfl) ⟨(eqF c29), trivial⟩ fun a185 hf186 => ?_
    have hm187 : Mem [] M w0 [] w20 := hm28.sel [] _ rfl (by kernel_rfl)
    refine thenN ?_
    refine wp_ret ?_
    have hm188 : Mem [] M w0 [] w20 := hm187.sel [] _ rfl (by kernel_rfl)
    obtain rfl := Option.some.inj H0
    refine ret [] [.bool false] [] hf186 (by kernel_rfl) trivial ?_
    exact ⟨_, rfl, rfl, hm188⟩

/-! ### backstitch/backstitchref1.Size -/
noncomputable def ref1_Size.l0 (x0 : (List Int)) (s15 : Int) : Step Int (Out2 Int (Int × Int)) :=
  if s15 < (x0.length : Int) then (if 0 ≤ s15 ∧ s15 < (x0.length : Int) then (if (rd x0 s15) < 1 then (.done (.ret (0, 2)))
  else (.next (w64 (s15 + 1))))
  else .bad)
  else (.done (.go s15))
noncomputable def ref1_Size.l1 (x0 : (List Int)) (s50 : (Int × Int)) : Step (Int × Int) (Out2 (Int × Int) (Int × Int)) :=
  if s50.2 < (x0.length : Int) then (if 0 ≤ s50.2 ∧ s50.2 < (x0.length : Int) then (if s50.1 ≠ 0 then (if (w64 (Int.tdiv 4096 s50.1)) < (rd x0 s50.2) then (.done (.ret (0, 3)))
  else (.next ((w64 (s50.1 * (rd x0 s50.2))), (w64 (s50.2 + 1)))))
  else .bad)
  else .bad)
  else (.done (.go (s50.1, s50.2)))
noncomputable def ref1_Size.f (x0 : (List Int)) : Option (Int × Int) :=
  if 4 < (x0.length : Int) then (some (0, 2))
  else ((loop (ref1_Size.l0 x0) 0).bind fun r16 =>
  r16.on (fun yr16 =>
  (loop (ref1_Size.l1 x0) (1, 0)).bind fun r51 =>
  r51.on (fun yr51 =>
  some (yr51.1, 0)) (fun y => some y)) (fun y => some y))
set_option maxRecDepth 100000 in
set_option maxHeartbeats 4000000 in
theorem ref1_Size.calls (M : List (Option Nat)) (w0 : World) (x0 : (List Int)) (A0 : Option Addr) (n0 c0 : Nat) (e0 : n0 = x0.length) (hm0 : Mem [] M w0 [.sl (Kd.int .i64) A0 c0 x0] w0) (r : (Int × Int)) (H0 : ref1_Size.f x0 = some r) :
    Calls Try.prog 18 [.slice A0 n0 c0].toArray w0 (fun x w' => ∃ v, x = .returned v ∧ v = .tuple #[.int .i64 r.1, .int .i64 r.2] ∧ Mem [] M w0 [] w') := by
  subst e0
  unfold ref1_Size.f at H0
  refine enter (n := 41) Try.func18 rfl rfl (by kernel_rfl) fun a0 (hf0 : Fr 41 a0 [(0, .slice A0 x0.length c0)]) => ?_
  refine wp_seq ?_
  refine reg [] [0] [(0, .slice A0 x0.length c0)] [] hf0 (by kernel_rfl) trivial fun a1 hf2 => ?_
  refine thenN ?_
  refine wp_seq ?_
  refine wp_seq ?_
  rcases if_split H0 with ⟨c3, H0⟩ | ⟨c3, H0⟩
  · refine reg [.bool true] [0, 9] [(0, .slice A0 x0.length c0), (9, .bool true)] [.is (decide (4 < (x0.length : Int)) = true)] hf2 (by kernel_rfl) ⟨(decide_eq_true c3), trivial⟩ fun a4 hf5 => ?_
    refine thenN ?_
    refine condT hf5 (by kernel_rfl) ?_
    refine wp_seq ?_
    refine reg [] [2, 3] [(2, .int .i64 0), (3, .int .i64 2)] [] hf5 (by kernel_rfl) trivial fun a6 hf7 => ?_
    have hm8 : Mem [] M w0 [] w0 := hm0.sel [] _ rfl (by kernel_rfl)
    refine thenN ?_
    refine wp_ret ?_
    refine thenR ?_
    have hm9 : Mem [] M w0 [] w0 := hm8.sel [] _ rfl (by kernel_rfl)
    obtain rfl := Option.some.inj H0
    refine ret [] [.int .i64 0, .int .i64 2] [] hf7 (by kernel_rfl) trivial ?_
    exact ⟨_, rfl, rfl, hm9⟩
  · refine reg [.bool false] [0, 9] [(0, .slice A0 x0.length c0), (9, .bool false)] [.is (decide (4 < (x0.length : Int)) = false)] hf2 (by kernel_rfl) ⟨(decide_eq_false c3), trivial⟩ fun a11 hf12 => ?_
    refine thenN ?_
    refine condF hf12 (by kernel_rfl) ?_
    refine wp_skip ?_
    refine thenN ?_
    refine wp_seq ?_
    refine wp_seq ?_
    refine reg [] [0, 4] [(0, .slice A0 x0.length c0), (4, .int .i64 0)] [] hf12 (by kernel_rfl) trivial fun a13 hf14 => ?_
    refine thenN ?_
    obtain ⟨r16, hr16, H0⟩ := ob_split H0
    refine wpBlock (Mid := fun (a : Act) (w : World) => ∃ yr16 : Int, r16 = .go yr16 ∧ Fr 41 a [(0, .slice A0 x0.length c0), (4, .int .i64 yr16)] ∧ Mem [] M w0 [.sl (Kd.int .i64) A0 c0 x0] w) ?_ ?_
    · refine wpLoop (ref1_Size.l0 x0) r16 (fun (s15 : Int) (a : Act) (w : World) => Fr 41 a [(0, .slice A0 x0.length c0), (4, .int .i64 s15)] ∧ Mem [] M w0 [.sl (Kd.int .i64) A0 c0 x0] w) 0 hr16 ⟨hf14.sel (l := [0, 4]) (by kernel_rfl), hm0.sel [0] _ rfl (by kernel_rfl)⟩ ?_
      rintro g17 s15 a18 w19 H1 ⟨hf20, hm21⟩
      unfold ref1_Size.l0 at H1
      refine wp_seq ?_
      refine wp_seq ?_
      rcases ifS_split H1 with ⟨c22, H1⟩ | ⟨c22, H1⟩
      · refine reg [.bool true] [0, 4, 13] [(0, .slice A0 x0.length c0), (4, .int .i64 s15), (13, .bool true)] [.is (decide (s15 < (x0.length : Int)) = true)] hf20 (by kernel_rfl) ⟨(decide_eq_true c22), trivial⟩ fun a23 hf24 => ?_
        refine thenN ?_
        refine condT hf24 (by kernel_rfl) ?_
        refine wp_skip ?_
        refine thenN ?_
        refine wp_seq ?_
        refine wp_block ?_
        refine wp_seq ?_
        obtain ⟨g25, H1⟩ := ifS_guard H1
        rcases ifS_split H1 with ⟨c26, H1⟩ | ⟨c26, H1⟩
        · have q27 := (hm21.slAt 0 rfl).int s15 g25.1 g25.2
          refine reg [.int .i64 (rd x0 s15), .bool true] [0, 4, 20] [(0, .slice A0 x0.length c0), (4, .int .i64 s15), (20, .bool true)] [.is (Option.isSome A0 = true), .is (0 ≤ s15 ∧ s15 < (x0.length : Int)), .cell ((ad A0).add ((s15).toNat * 1)) (.int .i64 (rd x0 s15)), .is (decide ((rd x0 s15) < 1) = true)] hf24 (by kernel_rfl) ⟨q27.1, g25, q27.2, (decide_eq_true c26), trivial⟩ fun a28 hf29 => ?_
          refine thenN ?_
          refine condT hf29 (by kernel_rfl) ?_
          refine wp_seq ?_
          refine reg [] [2, 3] [(2, .int .i64 0), (3, .int .i64 2)] [] hf29 (by kernel_rfl) trivial fun a30 hf31 => ?_
          have hm32 : Mem [] M w0 [] w19 := hm21.sel [] _ rfl (by kernel_rfl)
          refine thenN ?_
          refine wp_ret ?_
          refine blkR ?_
          refine thenR ?_
          refine thenR ?_
          refine .inr ⟨rfl, ?_⟩
          refine thenR ?_
          have hm33 : Mem [] M w0 [] w19 := hm32.sel [] _ rfl (by kernel_rfl)
          obtain rfl := Option.some.inj H1
          obtain rfl := Option.some.inj H0
          refine ret [] [.int .i64 0, .int .i64 2] [] hf31 (by kernel_rfl) trivial ?_
          exact ⟨_, rfl, rfl, hm33⟩
        · have q35 := (hm21.slAt 0 rfl).int s15 g25.1 g25.2
          refine reg [.int .i64 (rd x0 s15), .bool false] [0, 4, 20] [(0, .slice A0 x0.length c0), (4, .int .i64 s15), (20, .bool false)] [.is (Option.isSome A0 = true), .is (0 ≤ s15 ∧ s15 < (x0.length : Int)), .cell ((ad A0).add ((s15).toNat * 1)) (.int .i64 (rd x0 s15)), .is (decide ((rd x0 s15) < 1) = false)] hf24 (by kernel_rfl) ⟨q35.1, g25, q35.2, (decide_eq_false c26), trivial⟩ fun a36 hf37 => ?_
          refine thenN ?_
          refine condF hf37 (by kernel_rfl) ?_
          refine wp_skip ?_
          refine blkN ?_
          refine thenN ?_
          refine reg [] [0, 4] [(0, .slice A0 x0.length c0), (4, .int .i64 (w64 (s15 + 1)))] [] hf37 (by kernel_rfl) trivial fun a38 hf39 => ?_
          exact ⟨(w64 (s15 + 1)), H1, hf39.sel (l := [0, 4]) (by kernel_rfl), hm21.sel [0] _ rfl (by kernel_rfl)⟩
      · refine reg [.bool false] [0, 4, 13] [(0, .slice A0 x0.length c0), (4, .int .i64 s15), (13, .bool false)] [.is (decide (s15 < (x0.length : Int)) = false)] hf20 (by kernel_rfl) ⟨(decide_eq_false c22), trivial⟩ fun a40 hf41 => ?_
        refine thenN ?_
        refine condF hf41 (by kernel_rfl) ?_
        refine wp_exit ?_
        refine thenE ?_
        refine thenE ?_
        obtain rfl := Option.some.inj H1
        exact .inl ⟨rfl, s15, rfl, hf41.sel (l := [0, 4]) (by kernel_rfl), hm21.sel [0] _ rfl (by kernel_rfl)⟩
    rintro a42 w43 ⟨yr16, rfl, hf44, hm45⟩
    refine thenN ?_
    refine wp_seq ?_
    refine reg [] [0, 5] [(0, .slice A0 x0.length c0), (5, .int .i64 1)] [] hf44 (by kernel_rfl) trivial fun a46 hf47 => ?_
    refine thenN ?_
    refine wp_seq ?_
    refine wp_seq ?_
    refine reg [] [0, 5, 6] [(0, .slice A0 x0.length c0), (5, .int .i64 1), (6, .int .i64 0)] [] hf47 (by kernel_rfl) trivial fun a48 hf49 => ?_
    refine thenN ?_
    obtain ⟨r51, hr51, H0⟩ := ob_split H0
    refine wpBlock (Mid := fun (a : Act) (w : World) => ∃ yr51 : (Int × Int), r51 = .go yr51 ∧ Fr 41 a [(0, .slice A0 x0.length c0), (5, .int .i64 yr51.1), (6, .int .i64 yr51.2)] ∧ Mem [] M w0 [.sl (Kd.int .i64) A0 c0 x0] w) ?_ ?_
    · refine wpLoop (ref1_Size.l1 x0) r51 (fun (s50 : (Int × Int)) (a : Act) (w : World) => Fr 41 a [(0, .slice A0 x0.length c0), (5, .int .i64 s50.1), (6, .int .i64 s50.2)] ∧ Mem [] M w0 [.sl (Kd.int .i64) A0 c0 x0] w) (1, 0) hr51 ⟨hf49.sel (l := [0, 5, 6]) (by kernel_rfl), hm45.sel [0] _ rfl (by kernel_rfl)⟩ ?_
      rintro g52 s50 a53 w54 H1 ⟨hf55, hm56⟩
      unfold ref1_Size.l1 at H1
      refine wp_seq ?_
      refine wp_seq ?_
      rcases ifS_split H1 with ⟨c57, H1⟩ | ⟨c57, H1⟩
      · refine reg [.bool true] [0, 5, 6, 24] [(0, .slice A0 x0.length c0), (5, .int .i64 s50.1), (6, .int .i64 s50.2), (24, .bool true)] [.is (decide (s50.2 < (x0.length : Int)) = true)] hf55 (by kernel_rfl) ⟨(decide_eq_true c57), trivial⟩ fun a58 hf59 => ?_
        refine thenN ?_
        refine condT hf59 (by kernel_rfl) ?_
        refine wp_skip ?_
        refine thenN ?_
        refine wp_seq ?_
        refine wp_block ?_
        refine wp_seq ?_
        refine wp_seq ?_
        obtain ⟨g60, H1⟩ := ifS_guard H1
        obtain ⟨g61, H1⟩ := ifS_guard H1
        rcases ifS_split H1 with ⟨c62, H1⟩ | ⟨c62, H1⟩
        · have q63 := (hm56.slAt 0 rfl).int s50.2 g60.1 g60.2
          refine regQ [.int .i64 (rd x0 s50.2), .bool true] [0, 5, 6, 33] [(0, .slice A0 x0.length c0), (5, .int .i64 s50.1), (6, .int .i64 s50.2), (33, .bool true)] [.is (Option.isSome A0 = true), .is (0 ≤ s50.2 ∧ s50.2 < (x0.length : Int)), .cell ((ad A0).add ((s50.2).toNat * 1)) (.int .i64 (rd x0 s50.2)), .is (s50.1 ≠ 0), .is (decide ((w64 (Int.tdiv 4096 s50.1)) < (rd x0 s50.2)) = true)] (by kernel_rfl) (by kernel_rfl) hf59 (by kernel_rfl) ⟨q63.1, g60, q63.2, g61, (decide_eq_true c62), trivial⟩ fun a64 w66 hf65 hg67 => ?_
          have hm68 : Mem [] M w0 [.sl (Kd.int .i64) A0 c0 x0] w66 := hm56.still hg67
          refine thenN ?_
          refine condT hf65 (by kernel_rfl) ?_
          refine wp_seq ?_
          refine reg [] [2, 3] [(2, .int .i64 0), (3, .int .i64 3)] [] hf65 (by kernel_rfl) trivial fun a69 hf70 => ?_
          have hm71 : Mem [] M w0 [] w66 := hm68.sel [] _ rfl (by kernel_rfl)
          refine thenN ?_
          refine wp_ret ?_
          refine thenR ?_
          refine blkR ?_
          refine thenR ?_
          refine thenR ?_
          refine .inr ⟨rfl, ?_⟩
          refine thenR ?_
          have hm72 : Mem [] M w0 [] w66 := hm71.sel [] _ rfl (by kernel_rfl)
          obtain rfl := Option.some.inj H1
          obtain rfl := Option.some.inj H0
          refine ret [] [.int .i64 0, .int .i64 3] [] hf70 (by kernel_rfl) trivial ?_
          exact ⟨_, rfl, rfl, hm72⟩
        · have q74 := (hm56.slAt 0 rfl).int s50.2 g60.1 g60.2
          refine regQ [.int .i64 (rd x0 s50.2), .bool false] [0, 5, 6, 33] [(0, .slice A0 x0.length c0), (5, .int .i64 s50.1), (6, .int .i64 s50.2), (33, .bool false)] [.is (Option.isSome A0 = true), .is (0 ≤ s50.2 ∧ s50.2 < (x0.length : Int)), .cell ((ad A0).add ((s50.2).toNat * 1)) (.int .i64 (rd x0 s50.2)), .is (s50.1 ≠ 0), .is (decide ((w64 (Int.tdiv 4096 s50.1)) < (rd x0 s50.2)) = false)] (by kernel_rfl) (by kernel_rfl) hf59 (by kernel_rfl) ⟨q74.1, g60, q74.2, g61, (decide_eq_false c62), trivial⟩ fun a75 w77 hf76 hg78 => ?_
          have hm79 : Mem [] M w0 [.sl (Kd.int .i64) A0 c0 x0] w77 := hm56.still hg78
          refine thenN ?_
          refine condF hf76 (by kernel_rfl) ?_
          refine wp_skip ?_
          refine thenN ?_
          have q80 := (hm79.slAt 0 rfl).int s50.2 g60.1 g60.2
          refine reg [.int .i64 (rd x0 s50.2)] [0, 5, 6] [(0, .slice A0 x0.length c0), (5, .int .i64 (w64 (s50.1 * (rd x0 s50.2)))), (6, .int .i64 s50.2)] [.is (Option.isSome A0 = true), .is (0 ≤ s50.2 ∧ s50.2 < (x0.length : Int)), .cell ((ad A0).add ((s50.2).toNat * 1)) (.int .i64 (rd x0 s50.2))] hf76 (by kernel_rfl) ⟨q80.1, g60, q80.2, trivial⟩ fun a81 hf82 => ?_
          refine blkN ?_
          refine thenN ?_
          refine reg [] [0, 5, 6] [(0, .slice A0 x0.length c0), (5, .int .i64 (w64 (s50.1 * (rd x0 s50.2)))), (6, .int .i64 (w64 (s50.2 + 1)))] [] hf82 (by kernel_rfl) trivial fun a83 hf84 => ?_
          exact ⟨((w64 (s50.1 * (rd x0 s50.2))), (w64 (s50.2 + 1))), H1, hf84.sel (l := [0, 5, 6]) (by kernel_rfl), hm79.sel [0] _ rfl (by kernel_rfl)⟩
      · refine reg [.bool false] [0, 5, 6, 24] [(0, .slice A0 x0.length c0), (5, .int .i64 s50.1), (6, .int .i64 s50.2), (24, .bool false)] [.is (decide (s50.2 < (x0.length : Int)) = false)] hf55 (by kernel_rfl) ⟨(decide_eq_false c57), trivial⟩ fun a85 hf86 => ?_
        refine thenN ?_
        refine condF hf86 (by kernel_rfl) ?_
        refine wp_exit ?_
        refine thenE ?_
        refine thenE ?_
        obtain rfl := Option.some.inj H1
        exact .inl ⟨rfl, (s50.1, s50.2), rfl, hf86.sel (l := [0, 5, 6]) (by kernel_rfl), hm56.sel [0] _ rfl (by kernel_rfl)⟩
    rintro a87 w88 ⟨yr51, rfl, hf89, hm90⟩
    refine thenN ?_
    refine wp_seq ?_
    refine reg [] [2, 3] [(2, .int .i64 yr51.1), (3, .int .i64 0)] [] hf89 (by kernel_rfl) trivial fun a91 hf92 => ?_
    have hm93 : Mem [] M w0 [] w88 := hm90.sel [] _ rfl (by kernel_rfl)
    refine thenN ?_
    refine wp_ret ?_
    have hm94 : Mem [] M w0 [] w88 := hm93.sel [] _ rfl (by kernel_rfl)
    obtain rfl := Option.some.inj H0
    refine ret [] [.int .i64 yr51.1, .int .i64 0] [] hf92 (by kernel_rfl) trivial ?_
    exact ⟨_, rfl, rfl, hm94⟩

/-! ### backstitch/backstitchref1.May -/
noncomputable def ref1_May.f (x0 : (List Int)) : Option Bool :=
  (ref1_Size.f x0).bind fun r3 =>
  if r3.2 = 0 then (some true)
  else (some false)
set_option maxRecDepth 100000 in
set_option maxHeartbeats 4000000 in
theorem ref1_May.calls (M : List (Option Nat)) (w0 : World) (x0 : (List Int)) (A0 : Option Addr) (n0 c0 : Nat) (e0 : n0 = x0.length) (hm0 : Mem [] M w0 [.sl (Kd.int .i64) A0 c0 x0] w0) (r : Bool) (H0 : ref1_May.f x0 = some r) :
    Calls Try.prog 20 [.slice A0 n0 c0].toArray w0 (fun x w' => ∃ v, x = .returned v ∧ v = .bool r ∧ Mem [] M w0 [] w') := by
  subst e0
  unfold ref1_May.f at H0
  refine enter (n := 12) Try.func20 rfl rfl (by kernel_rfl) fun a0 (hf0 : Fr 12 a0 [(0, .slice A0 x0.length c0)]) => ?_
  refine wp_seq ?_
  refine reg [] [0] [(0, .slice A0 x0.length c0)] [] hf0 (by kernel_rfl) trivial fun a1 hf2 => ?_
  refine thenN ?_
  refine wp_seq ?_
  obtain ⟨r3, hr3, H0⟩ := ob_split H0
  refine inReg ?_
  refine go 1 [] [6] [(6, .slice A0 x0.length c0)] [] hf2 (by kernel_rfl) trivial fun a4 hf5 => ?_
  refine listOf hf5 rfl (by kernel_rfl) (aCall (fid := 18) (args := [.slice A0 x0.length c0]) (d := 7) hf5 (by kernel_rfl) (by kernel_rfl) callable18 (ref1_Size.calls _ _ x0 A0 x0.length c0 rfl (hm0.give [0] [.sl (Kd.int .i64) A0 c0 x0] rfl rfl) r3 hr3) ?_)
  rintro _ w6 a7 ⟨rfl, hk9⟩ hf8
  have hm10 : Mem [] M w0 [.sl (Kd.int .i64) A0 c0 x0] w6 := hm0.still hk9.cum.none
  refine go 5 [] [4] [(4, .int .i64 r3.2)] [] hf8 (by kernel_rfl) trivial fun a11 hf12 => ?_
  refine endL rfl ?_
  have hm13 : Mem [] M w0 [] w6 := hm10.sel [] _ rfl (by kernel_rfl)
  refine thenN ?_
  refine wp_seq ?_
  rcases if_split H0 with ⟨c14, H0⟩ | ⟨c14, H0⟩
  · refine reg [.bool true] [2] [(2, .bool true)] [.is (((r3.2 : Int) == 0) = true)] hf12 (by kernel_rfl) ⟨(eqT c14), trivial⟩ fun a15 hf16 => ?_
    refine thenN ?_
    refine wp_ret ?_
    have hm17 : Mem [] M w0 [] w6 := hm13.sel [] _ rfl (by kernel_rfl)
    obtain rfl := Option.some.inj H0
    refine ret [] [.bool true] [] hf16 (by kernel_rfl) trivial ?_
    exact ⟨_, rfl, rfl, hm17⟩
  · refine reg [.bool false] [2] [(2, .bool false)] [.is (((r3.2 : Int) == 0) = false)] hf12 (by kernel_rfl) ⟨(eqF c14), trivial⟩ fun a19 hf20 => ?_
    refine thenN ?_
    refine wp_ret ?_
    have hm21 : Mem [] M w0 [] w6 := hm13.sel [] _ rfl (by kernel_rfl)
    obtain rfl := Option.some.inj H0
    refine ret [] [.bool false] [] hf20 (by kernel_rfl) trivial ?_
    exact ⟨_, rfl, rfl, hm21⟩
end Go.Proofs.Ytgekodhpkhdanaa
