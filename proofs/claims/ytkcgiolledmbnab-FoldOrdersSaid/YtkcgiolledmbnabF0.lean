/- Printed by gen.py. -/
import Derived.Test.YtkcgiolledmbnabK
namespace Go.Proofs.Ytkcgiolledmbnab
open Go Go.RowKit
set_option linter.unusedSimpArgs false
set_option linter.unusedVariables false
set_option linter.unnecessarySimpa false
/-! ### backstitch/shape.Size$1 -/
noncomputable def shape_Size_1.f (x0 : Int) : Option Bool :=
  if x0 < 1 then (some true)
  else (some false)
set_option maxRecDepth 100000 in
set_option maxHeartbeats 4000000 in
theorem shape_Size_1.calls (M : List (Option Nat)) (w0 : World) (x0 : Int) (hm0 : Mem [] M w0 [] w0) (r : Bool) (H0 : shape_Size_1.f x0 = some r) :
    Calls Try.prog 80 [.int .i64 x0].toArray w0 (fun x w' => ∃ v, x = .returned v ∧ v = .bool r ∧ Mem [] M w0 [] w') := by
  unfold shape_Size_1.f at H0
  refine enter (n := 5) Try.func80 rfl rfl (by kernel_rfl) fun a0 (hf0 : Fr 5 a0 [(0, .int .i64 x0)]) => ?_
  refine wp_seq ?_
  refine reg [] [0] [(0, .int .i64 x0)] [] hf0 (by kernel_rfl) trivial fun a21 hf22 => ?_
  refine thenN ?_
  refine wp_seq ?_
  rcases if_split H0 with ⟨c23, H0⟩ | ⟨c23, H0⟩
  · refine reg [.bool true] [2] [(2, .bool true)] [.is (decide (x0 < 1) = true)] hf22 (by kernel_rfl) ⟨(decide_eq_true c23), trivial⟩ fun a24 hf25 => ?_
    refine thenN ?_
    refine wp_ret ?_
    have hm26 : Mem [] M w0 [] w0 := hm0.sel [] _ rfl (by kernel_rfl)
    obtain rfl := Option.some.inj H0
    refine ret [] [.bool true] [] hf25 (by kernel_rfl) trivial ?_
    exact ⟨_, rfl, rfl, hm26⟩
  refine reg [.bool false] [2] [(2, .bool false)] [.is (decide (x0 < 1) = false)] hf22 (by kernel_rfl) ⟨(decide_eq_false c23), trivial⟩ fun a28 hf29 => ?_
  refine thenN ?_
  refine wp_ret ?_
  have hm30 : Mem [] M w0 [] w0 := hm0.sel [] _ rfl (by kernel_rfl)
  obtain rfl := Option.some.inj H0
  refine ret [] [.bool false] [] hf29 (by kernel_rfl) trivial ?_
  exact ⟨_, rfl, rfl, hm30⟩

/-! ### slices.IndexFunc[[]int,int] -/
noncomputable def slices_IndexFunc_int_shape_Size_1.l0 (x0 : (List Int)) (s25 : Int) : Step Int (Out2 Int Int) :=
  if s25 < (x0.length : Int) then (if 0 ≤ s25 ∧ s25 < (x0.length : Int) then (bindS (shape_Size_1.f (rd x0 s25)) fun r38 =>
  if r38 = true then (.done (.ret s25))
  else (.next (w64 (s25 + 1))))
  else .bad)
  else (.done (.go s25))
noncomputable def slices_IndexFunc_int_shape_Size_1.f (x0 : (List Int)) : Option Int :=
  (loop (slices_IndexFunc_int_shape_Size_1.l0 x0) 0).bind fun r26 =>
  r26.on (fun yr26 =>
  some (-1)) (fun y => some y)
set_option maxRecDepth 100000 in
set_option maxHeartbeats 4000000 in
theorem slices_IndexFunc_int_shape_Size_1.calls (M : List (Option Nat)) (w0 : World) (x0 : (List Int)) (A0 : Option Addr) (n0 c0 : Nat) (e0 : n0 = x0.length) (hm0 : Mem [] M w0 [.sl (Kd.int .i64) A0 c0 x0] w0) (r : Int) (H0 : slices_IndexFunc_int_shape_Size_1.f x0 = some r) :
    Calls Try.prog 91 [.slice A0 n0 c0, .func (.func 80) #[] #[]].toArray w0 (fun x w' => ∃ v, x = .returned v ∧ v = .int .i64 r ∧ Mem [] M w0 [] w') := by
  subst e0
  unfold slices_IndexFunc_int_shape_Size_1.f at H0
  refine enter (n := 19) Try.func91 rfl rfl (by kernel_rfl) fun a0 (hf0 : Fr 19 a0 [(0, .slice A0 x0.length c0), (1, .func (.func 80) #[] #[])]) => ?_
  refine wp_seq ?_
  refine reg [] [0, 1] [(0, .slice A0 x0.length c0), (1, .func (.func 80) #[] #[])] [] hf0 (by kernel_rfl) trivial fun a21 hf22 => ?_
  refine thenN ?_
  refine wp_seq ?_
  refine wp_seq ?_
  refine reg [] [0, 1, 7, 8] [(0, .slice A0 x0.length c0), (1, .func (.func 80) #[] #[]), (7, .int .i64 (x0.length : Int)), (8, .int .i64 0)] [] hf22 (by kernel_rfl) trivial fun a23 hf24 => ?_
  refine thenN ?_
  obtain ⟨r26, hr26, H0⟩ := ob_split H0
  refine wpBlock (Mid := fun (a : Act) (w : World) => ∃ yr26 : Int, r26 = .go yr26 ∧ Fr 19 a [(0, .slice A0 x0.length c0), (1, .func (.func 80) #[] #[]), (7, .int .i64 (x0.length : Int)), (8, .int .i64 yr26)] ∧ Mem [] M w0 [.sl (Kd.int .i64) A0 c0 x0] w) ?_ ?_
  · refine wpLoop (slices_IndexFunc_int_shape_Size_1.l0 x0) r26 (fun (s25 : Int) (a : Act) (w : World) => Fr 19 a [(0, .slice A0 x0.length c0), (1, .func (.func 80) #[] #[]), (7, .int .i64 (x0.length : Int)), (8, .int .i64 s25)] ∧ Mem [] M w0 [.sl (Kd.int .i64) A0 c0 x0] w) 0 hr26 ⟨hf24.sel (l := [0, 1, 7, 8]) (by kernel_rfl), hm0.sel [0] _ rfl (by kernel_rfl)⟩ ?_
    rintro g27 s25 a28 w29 H1 ⟨hf30, hm31⟩
    unfold slices_IndexFunc_int_shape_Size_1.l0 at H1
    refine wp_seq ?_
    rcases ifS_split H1 with ⟨c32, H1⟩ | ⟨c32, H1⟩
    rotate_left
    · refine reg [.bool false] [0, 1, 7, 8, 9] [(0, .slice A0 x0.length c0), (1, .func (.func 80) #[] #[]), (7, .int .i64 (x0.length : Int)), (8, .int .i64 s25), (9, .bool false)] [.is (decide (s25 < (x0.length : Int)) = false)] hf30 (by kernel_rfl) ⟨(decide_eq_false c32), trivial⟩ fun a55 hf56 => ?_
      refine thenN ?_
      refine wp_seq ?_
      refine condF hf56 (by kernel_rfl) ?_
      refine wp_exit ?_
      refine thenE ?_
      refine thenE ?_
      obtain rfl := Option.some.inj H1
      exact .inl ⟨rfl, s25, rfl, hf56.sel (l := [0, 1, 7, 8]) (by kernel_rfl), hm31.sel [0] _ rfl (by kernel_rfl)⟩
    refine reg [.bool true] [0, 1, 7, 8, 9] [(0, .slice A0 x0.length c0), (1, .func (.func 80) #[] #[]), (7, .int .i64 (x0.length : Int)), (8, .int .i64 s25), (9, .bool true)] [.is (decide (s25 < (x0.length : Int)) = true)] hf30 (by kernel_rfl) ⟨(decide_eq_true c32), trivial⟩ fun a33 hf34 => ?_
    refine thenN ?_
    refine wp_seq ?_
    refine condT hf34 (by kernel_rfl) ?_
    refine wp_skip ?_
    refine thenN ?_
    refine wp_seq ?_
    refine wp_block ?_
    refine wp_seq ?_
    refine reg [] [0, 1, 5, 7, 8] [(0, .slice A0 x0.length c0), (1, .func (.func 80) #[] #[]), (5, .int .i64 s25), (7, .int .i64 (x0.length : Int)), (8, .int .i64 s25)] [] hf34 (by kernel_rfl) trivial fun a35 hf36 => ?_
    refine thenN ?_
    refine wp_seq ?_
    obtain ⟨g37, H1⟩ := ifS_guard H1
    obtain ⟨r38, hr38, H1⟩ := obS_split H1
    have q39 := (hm31.slAt 0 rfl).int s25 g37.1 g37.2
    refine inReg ?_
    refine go 5 [.int .i64 (rd x0 s25)] [0, 1, 5, 7, 8, 11, 15] [(0, .slice A0 x0.length c0), (1, .func (.func 80) #[] #[]), (5, .int .i64 s25), (7, .int .i64 (x0.length : Int)), (8, .int .i64 s25), (11, .func (.func 80) #[] #[]), (15, .int .i64 (rd x0 s25))] [.is (Option.isSome A0 = true), .is (0 ≤ s25 ∧ s25 < (x0.length : Int)), .cell ((ad A0).add ((s25).toNat * 1)) (.int .i64 (rd x0 s25))] hf36 (by kernel_rfl) ⟨q39.1, g37, q39.2, trivial⟩ fun a40 hf41 => ?_
    refine listOf hf41 rfl (by kernel_rfl) (aCall (fid := 80) (args := [.int .i64 (rd x0 s25)]) (d := 16) hf41 (by kernel_rfl) (by kernel_rfl) callable80 (shape_Size_1.calls _ _ (rd x0 s25) (hm31.give [] [] rfl rfl) r38 hr38) ?_)
    rintro _ w42 a43 ⟨rfl, hk45⟩ hf44
    have hm46 := hm31.still hk45.cum.none
    refine endL rfl ?_
    refine thenN ?_
    rcases ifbS_split H1 with ⟨c47, H1⟩ | ⟨c47, H1⟩
    rotate_left
    · rw [c47] at hf44
      refine condF hf44 (by kernel_rfl) ?_
      refine wp_skip ?_
      refine blkN ?_
      refine thenN ?_
      refine reg [] [0, 1, 7, 8] [(0, .slice A0 x0.length c0), (1, .func (.func 80) #[] #[]), (7, .int .i64 (x0.length : Int)), (8, .int .i64 (w64 (s25 + 1)))] [] hf44 (by kernel_rfl) trivial fun a53 hf54 => ?_
      exact ⟨(w64 (s25 + 1)), H1, hf54.sel (l := [0, 1, 7, 8]) (by kernel_rfl), hm46.sel [0] _ rfl (by kernel_rfl)⟩
    rw [c47] at hf44
    refine condT hf44 (by kernel_rfl) ?_
    refine wp_seq ?_
    refine reg [] [4] [(4, .int .i64 s25)] [] hf44 (by kernel_rfl) trivial fun a48 hf49 => ?_
    have hm50 := hm46.sel [] _ rfl (by kernel_rfl)
    refine thenN ?_
    refine wp_ret ?_
    refine blkR ?_
    refine thenR ?_
    refine thenR ?_
    refine .inr ⟨rfl, ?_⟩
    refine thenR ?_
    have hm51 : Mem [] M w0 [] w42 := hm50.sel [] _ rfl (by kernel_rfl)
    obtain rfl := Option.some.inj H1
    obtain rfl := Option.some.inj H0
    refine ret [] [.int .i64 s25] [] hf49 (by kernel_rfl) trivial ?_
    exact ⟨_, rfl, rfl, hm51⟩
  rintro a57 w58 ⟨yr26, rfl, hf59, hm60⟩
  refine thenN ?_
  refine wp_seq ?_
  refine reg [] [4] [(4, .int .i64 (-1))] [] hf59 (by kernel_rfl) trivial fun a61 hf62 => ?_
  have hm63 := hm60.sel [] _ rfl (by kernel_rfl)
  refine thenN ?_
  refine wp_ret ?_
  have hm65 : Mem [] M w0 [] w58 := hm63.sel [] _ rfl (by kernel_rfl)
  obtain rfl := Option.some.inj H0
  refine ret [] [.int .i64 (-1)] [] hf62 (by kernel_rfl) trivial ?_
  exact ⟨_, rfl, rfl, hm65⟩

/-! ### slices.ContainsFunc[[]int,int] -/
noncomputable def slices_ContainsFunc_int_shape_Size_1.f (x0 : (List Int)) : Option Bool :=
  (slices_IndexFunc_int_shape_Size_1.f x0).bind fun r23 =>
  if 0 ≤ r23 then (some true)
  else (some false)
set_option maxRecDepth 100000 in
set_option maxHeartbeats 4000000 in
theorem slices_ContainsFunc_int_shape_Size_1.calls (M : List (Option Nat)) (w0 : World) (x0 : (List Int)) (A0 : Option Addr) (n0 c0 : Nat) (e0 : n0 = x0.length) (hm0 : Mem [] M w0 [.sl (Kd.int .i64) A0 c0 x0] w0) (r : Bool) (H0 : slices_ContainsFunc_int_shape_Size_1.f x0 = some r) :
    Calls Try.prog 79 [.slice A0 n0 c0, .func (.func 80) #[] #[]].toArray w0 (fun x w' => ∃ v, x = .returned v ∧ v = .bool r ∧ Mem [] M w0 [] w') := by
  subst e0
  unfold slices_ContainsFunc_int_shape_Size_1.f at H0
  refine enter (n := 9) Try.func79 rfl rfl (by kernel_rfl) fun a0 (hf0 : Fr 9 a0 [(0, .slice A0 x0.length c0), (1, .func (.func 80) #[] #[])]) => ?_
  refine wp_seq ?_
  refine reg [] [0, 1] [(0, .slice A0 x0.length c0), (1, .func (.func 80) #[] #[])] [] hf0 (by kernel_rfl) trivial fun a21 hf22 => ?_
  refine thenN ?_
  refine wp_seq ?_
  obtain ⟨r23, hr23, H0⟩ := ob_split H0
  rcases if_split H0 with ⟨c24, H0⟩ | ⟨c24, H0⟩
  · refine inReg ?_
    refine go 2 [] [5, 6] [(5, .slice A0 x0.length c0), (6, .func (.func 80) #[] #[])] [] hf22 (by kernel_rfl) trivial fun a25 hf26 => ?_
    refine listOf hf26 rfl (by kernel_rfl) (aCall (fid := 91) (args := [.slice A0 x0.length c0, .func (.func 80) #[] #[]]) (d := 7) hf26 (by kernel_rfl) (by kernel_rfl) callable91 (slices_IndexFunc_int_shape_Size_1.calls _ _ x0 A0 x0.length c0 rfl (hm0.give [0] [.sl (Kd.int .i64) A0 c0 x0] rfl rfl) r23 hr23) ?_)
    rintro _ w27 a28 ⟨rfl, hk30⟩ hf29
    have hm31 := hm0.still hk30.cum.none
    refine go 2 [.bool true] [4] [(4, .bool true)] [.is (decide (0 ≤ r23) = true)] hf29 (by kernel_rfl) ⟨(decide_eq_true c24), trivial⟩ fun a32 hf33 => ?_
    refine endL rfl ?_
    have hm34 := hm31.sel [] _ rfl (by kernel_rfl)
    refine thenN ?_
    refine wp_ret ?_
    have hm35 : Mem [] M w0 [] w27 := hm34.sel [] _ rfl (by kernel_rfl)
    obtain rfl := Option.some.inj H0
    refine ret [] [.bool true] [] hf33 (by kernel_rfl) trivial ?_
    exact ⟨_, rfl, rfl, hm35⟩
  refine inReg ?_
  refine go 2 [] [5, 6] [(5, .slice A0 x0.length c0), (6, .func (.func 80) #[] #[])] [] hf22 (by kernel_rfl) trivial fun a37 hf38 => ?_
  refine listOf hf38 rfl (by kernel_rfl) (aCall (fid := 91) (args := [.slice A0 x0.length c0, .func (.func 80) #[] #[]]) (d := 7) hf38 (by kernel_rfl) (by kernel_rfl) callable91 (slices_IndexFunc_int_shape_Size_1.calls _ _ x0 A0 x0.length c0 rfl (hm0.give [0] [.sl (Kd.int .i64) A0 c0 x0] rfl rfl) r23 hr23) ?_)
  rintro _ w39 a40 ⟨rfl, hk42⟩ hf41
  have hm43 := hm0.still hk42.cum.none
  refine go 2 [.bool false] [4] [(4, .bool false)] [.is (decide (0 ≤ r23) = false)] hf41 (by kernel_rfl) ⟨(decide_eq_false c24), trivial⟩ fun a44 hf45 => ?_
  refine endL rfl ?_
  have hm46 := hm43.sel [] _ rfl (by kernel_rfl)
  refine thenN ?_
  refine wp_ret ?_
  have hm47 : Mem [] M w0 [] w39 := hm46.sel [] _ rfl (by kernel_rfl)
  obtain rfl := Option.some.inj H0
  refine ret [] [.bool false] [] hf45 (by kernel_rfl) trivial ?_
  exact ⟨_, rfl, rfl, hm47⟩

/-! ### backstitch/shape.Size -/
noncomputable def shape_Size.l0 (x0 : (List Int)) (s51 : (Int × Int)) : Step (Int × Int) (Out2 (Int × Int) (Int × Int)) :=
  if s51.2 < (x0.length : Int) then (if 0 ≤ s51.2 ∧ s51.2 < (x0.length : Int) then (if s51.1 ≠ 0 then (if (w64 (Int.tdiv 4096 s51.1)) < (rd x0 s51.2) then (.done (.ret (0, 3)))
  else (.next ((w64 (s51.1 * (rd x0 s51.2))), (w64 (s51.2 + 1)))))
  else .bad)
  else .bad)
  else (.done (.go (s51.1, s51.2)))
noncomputable def shape_Size.f (x0 : (List Int)) : Option (Int × Int) :=
  if 4 < (x0.length : Int) then (some (0, 2))
  else ((slices_ContainsFunc_int_shape_Size_1.f x0).bind fun r31 =>
  if r31 = true then (some (0, 2))
  else ((loop (shape_Size.l0 x0) (1, 0)).bind fun r52 =>
  r52.on (fun yr52 =>
  some (yr52.1, 0)) (fun y => some y)))
set_option maxRecDepth 100000 in
set_option maxHeartbeats 4000000 in
theorem shape_Size.calls (M : List (Option Nat)) (w0 : World) (x0 : (List Int)) (A0 : Option Addr) (n0 c0 : Nat) (e0 : n0 = x0.length) (hm0 : Mem [] M w0 [.sl (Kd.int .i64) A0 c0 x0] w0) (r : (Int × Int)) (H0 : shape_Size.f x0 = some r) :
    Calls Try.prog 53 [.slice A0 n0 c0].toArray w0 (fun x w' => ∃ v, x = .returned v ∧ v = .tuple #[.int .i64 r.1, .int .i64 r.2] ∧ Mem [] M w0 [] w') := by
  subst e0
  unfold shape_Size.f at H0
  refine enter (n := 29) Try.func53 rfl rfl (by kernel_rfl) fun a0 (hf0 : Fr 29 a0 [(0, .slice A0 x0.length c0)]) => ?_
  refine wp_seq ?_
  refine reg [] [0] [(0, .slice A0 x0.length c0)] [] hf0 (by kernel_rfl) trivial fun a21 hf22 => ?_
  refine thenN ?_
  refine wp_seq ?_
  refine wp_seq ?_
  rcases if_split H0 with ⟨c23, H0⟩ | ⟨c23, H0⟩
  · refine reg [.bool true] [0, 13] [(0, .slice A0 x0.length c0), (13, .bool true)] [.is (decide (4 < (x0.length : Int)) = true)] hf22 (by kernel_rfl) ⟨(decide_eq_true c23), trivial⟩ fun a24 hf25 => ?_
    refine thenN ?_
    refine condT hf25 (by kernel_rfl) ?_
    refine wp_seq ?_
    refine reg [] [2, 3] [(2, .int .i64 0), (3, .int .i64 2)] [] hf25 (by kernel_rfl) trivial fun a26 hf27 => ?_
    have hm28 := hm0.sel [] _ rfl (by kernel_rfl)
    refine thenN ?_
    refine wp_ret ?_
    refine thenR ?_
    have hm29 : Mem [] M w0 [] w0 := hm28.sel [] _ rfl (by kernel_rfl)
    obtain rfl := Option.some.inj H0
    refine ret [] [.int .i64 0, .int .i64 2] [] hf27 (by kernel_rfl) trivial ?_
    exact ⟨_, rfl, rfl, hm29⟩
  obtain ⟨r31, hr31, H0⟩ := ob_split H0
  refine inReg ?_
  refine go 5 [.bool false] [0, 10, 11] [(0, .slice A0 x0.length c0), (10, .bool false), (11, .slice A0 x0.length c0)] [.is (decide (4 < (x0.length : Int)) = false)] hf22 (by kernel_rfl) ⟨(decide_eq_false c23), trivial⟩ fun a32 hf33 => ?_
  refine listOf hf33 rfl (by kernel_rfl) (aCall (fid := 79) (args := [.slice A0 x0.length c0, .func (.func 80) #[] #[]]) (d := 12) hf33 (by kernel_rfl) (by kernel_rfl) callable79 (slices_ContainsFunc_int_shape_Size_1.calls _ _ x0 A0 x0.length c0 rfl (hm0.give [0] [.sl (Kd.int .i64) A0 c0 x0] rfl rfl) r31 hr31) ?_)
  rintro _ w34 a35 ⟨rfl, hk37⟩ hf36
  have hm38 := hm0.still hk37.cum.none
  refine go 1 [] [0, 13] [(0, .slice A0 x0.length c0), (13, .bool r31)] [] hf36 (by kernel_rfl) trivial fun a39 hf40 => ?_
  refine endL rfl ?_
  refine thenN ?_
  rcases ifb_split H0 with ⟨c41, H0⟩ | ⟨c41, H0⟩
  · rw [c41] at hf40
    refine condT hf40 (by kernel_rfl) ?_
    refine wp_seq ?_
    refine reg [] [2, 3] [(2, .int .i64 0), (3, .int .i64 2)] [] hf40 (by kernel_rfl) trivial fun a42 hf43 => ?_
    have hm44 := hm38.sel [] _ rfl (by kernel_rfl)
    refine thenN ?_
    refine wp_ret ?_
    refine thenR ?_
    have hm45 : Mem [] M w0 [] w34 := hm44.sel [] _ rfl (by kernel_rfl)
    obtain rfl := Option.some.inj H0
    refine ret [] [.int .i64 0, .int .i64 2] [] hf43 (by kernel_rfl) trivial ?_
    exact ⟨_, rfl, rfl, hm45⟩
  rw [c41] at hf40
  refine condF hf40 (by kernel_rfl) ?_
  refine wp_skip ?_
  refine thenN ?_
  refine wp_seq ?_
  refine reg [] [0, 4] [(0, .slice A0 x0.length c0), (4, .int .i64 1)] [] hf40 (by kernel_rfl) trivial fun a47 hf48 => ?_
  refine thenN ?_
  refine wp_seq ?_
  refine wp_seq ?_
  refine reg [] [4, 14, 15, 16] [(4, .int .i64 1), (14, .slice A0 x0.length c0), (15, .int .i64 (x0.length : Int)), (16, .int .i64 0)] [] hf48 (by kernel_rfl) trivial fun a49 hf50 => ?_
  refine thenN ?_
  obtain ⟨r52, hr52, H0⟩ := ob_split H0
  refine wpBlock (Mid := fun (a : Act) (w : World) => ∃ yr52 : (Int × Int), r52 = .go yr52 ∧ Fr 29 a [(4, .int .i64 yr52.1), (14, .slice A0 x0.length c0), (15, .int .i64 (x0.length : Int)), (16, .int .i64 yr52.2)] ∧ Mem [] M w0 [.sl (Kd.int .i64) A0 c0 x0] w) ?_ ?_
  · refine wpLoop (shape_Size.l0 x0) r52 (fun (s51 : (Int × Int)) (a : Act) (w : World) => Fr 29 a [(4, .int .i64 s51.1), (14, .slice A0 x0.length c0), (15, .int .i64 (x0.length : Int)), (16, .int .i64 s51.2)] ∧ Mem [] M w0 [.sl (Kd.int .i64) A0 c0 x0] w) (1, 0) hr52 ⟨hf50.sel (l := [4, 14, 15, 16]) (by kernel_rfl), hm38.sel [0] _ rfl (by kernel_rfl)⟩ ?_
    rintro g53 s51 a54 w55 H1 ⟨hf56, hm57⟩
    unfold shape_Size.l0 at H1
    refine wp_seq ?_
    rcases ifS_split H1 with ⟨c58, H1⟩ | ⟨c58, H1⟩
    rotate_left
    · refine reg [.bool false] [4, 14, 15, 16, 17] [(4, .int .i64 s51.1), (14, .slice A0 x0.length c0), (15, .int .i64 (x0.length : Int)), (16, .int .i64 s51.2), (17, .bool false)] [.is (decide (s51.2 < (x0.length : Int)) = false)] hf56 (by kernel_rfl) ⟨(decide_eq_false c58), trivial⟩ fun a81 hf82 => ?_
      refine thenN ?_
      refine wp_seq ?_
      refine condF hf82 (by kernel_rfl) ?_
      refine wp_exit ?_
      refine thenE ?_
      refine thenE ?_
      obtain rfl := Option.some.inj H1
      exact .inl ⟨rfl, (s51.1, s51.2), rfl, hf82.sel (l := [4, 14, 15, 16]) (by kernel_rfl), hm57.sel [0] _ rfl (by kernel_rfl)⟩
    refine reg [.bool true] [4, 14, 15, 16, 17] [(4, .int .i64 s51.1), (14, .slice A0 x0.length c0), (15, .int .i64 (x0.length : Int)), (16, .int .i64 s51.2), (17, .bool true)] [.is (decide (s51.2 < (x0.length : Int)) = true)] hf56 (by kernel_rfl) ⟨(decide_eq_true c58), trivial⟩ fun a59 hf60 => ?_
    refine thenN ?_
    refine wp_seq ?_
    refine condT hf60 (by kernel_rfl) ?_
    refine wp_skip ?_
    refine thenN ?_
    refine wp_seq ?_
    refine wp_block ?_
    refine wp_seq ?_
    obtain ⟨g61, H1⟩ := ifS_guard H1
    have q62 := (hm57.slAt 0 rfl).int s51.2 g61.1 g61.2
    refine reg [.int .i64 (rd x0 s51.2)] [4, 6, 14, 15, 16] [(4, .int .i64 s51.1), (6, .int .i64 (rd x0 s51.2)), (14, .slice A0 x0.length c0), (15, .int .i64 (x0.length : Int)), (16, .int .i64 s51.2)] [.is (Option.isSome A0 = true), .is (0 ≤ s51.2 ∧ s51.2 < (x0.length : Int)), .cell ((ad A0).add ((s51.2).toNat * 1)) (.int .i64 (rd x0 s51.2))] hf60 (by kernel_rfl) ⟨q62.1, g61, q62.2, trivial⟩ fun a63 hf65 => ?_
    refine thenN ?_
    refine wp_seq ?_
    refine wp_seq ?_
    obtain ⟨g66, H1⟩ := ifS_guard H1
    rcases ifS_split H1 with ⟨c67, H1⟩ | ⟨c67, H1⟩
    rotate_left
    · refine reg [.bool false] [4, 6, 14, 15, 16, 23] [(4, .int .i64 s51.1), (6, .int .i64 (rd x0 s51.2)), (14, .slice A0 x0.length c0), (15, .int .i64 (x0.length : Int)), (16, .int .i64 s51.2), (23, .bool false)] [.is (s51.1 ≠ 0), .is (decide ((w64 (Int.tdiv 4096 s51.1)) < (rd x0 s51.2)) = false)] hf65 (by kernel_rfl) ⟨g66, (decide_eq_false c67), trivial⟩ fun a75 hf76 => ?_
      refine thenN ?_
      refine condF hf76 (by kernel_rfl) ?_
      refine wp_skip ?_
      refine thenN ?_
      refine reg [] [4, 14, 15, 16] [(4, .int .i64 (w64 (s51.1 * (rd x0 s51.2)))), (14, .slice A0 x0.length c0), (15, .int .i64 (x0.length : Int)), (16, .int .i64 s51.2)] [] hf76 (by kernel_rfl) trivial fun a77 hf78 => ?_
      refine blkN ?_
      refine thenN ?_
      refine reg [] [4, 14, 15, 16] [(4, .int .i64 (w64 (s51.1 * (rd x0 s51.2)))), (14, .slice A0 x0.length c0), (15, .int .i64 (x0.length : Int)), (16, .int .i64 (w64 (s51.2 + 1)))] [] hf78 (by kernel_rfl) trivial fun a79 hf80 => ?_
      exact ⟨((w64 (s51.1 * (rd x0 s51.2))), (w64 (s51.2 + 1))), H1, hf80.sel (l := [4, 14, 15, 16]) (by kernel_rfl), hm57.sel [0] _ rfl (by kernel_rfl)⟩
    refine reg [.bool true] [4, 6, 14, 15, 16, 23] [(4, .int .i64 s51.1), (6, .int .i64 (rd x0 s51.2)), (14, .slice A0 x0.length c0), (15, .int .i64 (x0.length : Int)), (16, .int .i64 s51.2), (23, .bool true)] [.is (s51.1 ≠ 0), .is (decide ((w64 (Int.tdiv 4096 s51.1)) < (rd x0 s51.2)) = true)] hf65 (by kernel_rfl) ⟨g66, (decide_eq_true c67), trivial⟩ fun a68 hf69 => ?_
    refine thenN ?_
    refine condT hf69 (by kernel_rfl) ?_
    refine wp_seq ?_
    refine reg [] [2, 3] [(2, .int .i64 0), (3, .int .i64 3)] [] hf69 (by kernel_rfl) trivial fun a70 hf71 => ?_
    have hm72 := hm57.sel [] _ rfl (by kernel_rfl)
    refine thenN ?_
    refine wp_ret ?_
    refine thenR ?_
    refine blkR ?_
    refine thenR ?_
    refine thenR ?_
    refine .inr ⟨rfl, ?_⟩
    refine thenR ?_
    have hm73 : Mem [] M w0 [] w55 := hm72.sel [] _ rfl (by kernel_rfl)
    obtain rfl := Option.some.inj H1
    obtain rfl := Option.some.inj H0
    refine ret [] [.int .i64 0, .int .i64 3] [] hf71 (by kernel_rfl) trivial ?_
    exact ⟨_, rfl, rfl, hm73⟩
  rintro a83 w84 ⟨yr52, rfl, hf85, hm86⟩
  refine thenN ?_
  refine wp_seq ?_
  refine reg [] [2, 3] [(2, .int .i64 yr52.1), (3, .int .i64 0)] [] hf85 (by kernel_rfl) trivial fun a87 hf88 => ?_
  have hm89 := hm86.sel [] _ rfl (by kernel_rfl)
  refine thenN ?_
  refine wp_ret ?_
  have hm90 : Mem [] M w0 [] w84 := hm89.sel [] _ rfl (by kernel_rfl)
  obtain rfl := Option.some.inj H0
  refine ret [] [.int .i64 yr52.1, .int .i64 0] [] hf88 (by kernel_rfl) trivial ?_
  exact ⟨_, rfl, rfl, hm90⟩

/-! ### slices.Clone[[]int,int] -/
noncomputable def slices_Clone_int.f (x0 : (List Int)) : Option (List Int) :=
  if 0 + x0.length ≤ 549755813888 then (some (([] : List Int) ++ x0))
  else none
set_option maxRecDepth 100000 in
set_option maxHeartbeats 4000000 in
theorem slices_Clone_int.calls (M : List (Option Nat)) (w0 : World) (x0 : (List Int)) (A0 : Option Addr) (n0 c0 : Nat) (e0 : n0 = x0.length) (hm0 : Mem [] M w0 [.sl (Kd.int .i64) A0 c0 x0] w0) (r : (List Int)) (H0 : slices_Clone_int.f x0 = some r) :
    Calls Try.prog 54 [.slice A0 n0 c0].toArray w0 (fun x w' => ∃ v, x = .returned v ∧ ∃ Ar0 cr0, v = .slice Ar0 r.length cr0 ∧ Mem [] M w0 [.ow (Kd.int .i64) 3 Ar0 cr0 r] w') := by
  subst e0
  unfold slices_Clone_int.f at H0
  refine enter (n := 8) Try.func54 rfl rfl (by kernel_rfl) fun a0 (hf0 : Fr 8 a0 [(0, .slice A0 x0.length c0)]) => ?_
  refine wp_seq ?_
  refine reg [] [0] [(0, .slice A0 x0.length c0)] [] hf0 (by kernel_rfl) trivial fun a21 hf22 => ?_
  refine thenN ?_
  refine wp_seq ?_
  refine wp_seq ?_
  rcases A0 with _ | p23
  · obtain rfl := Sl.none (hm0.slAt 0 rfl)
    refine reg [] [0, 4] [(0, .slice none (([] : (List Int)).length) c0), (4, .bool true)] [] hf22 (by kernel_rfl) trivial fun a24 hf25 => ?_
    refine thenN ?_
    refine condT hf25 (by kernel_rfl) ?_
    refine wp_seq ?_
    refine reg [] [2] [(2, .slice none 0 0)] [] hf25 (by kernel_rfl) trivial fun a26 hf27 => ?_
    have hm28 := hm0.sel [] _ rfl (by kernel_rfl)
    refine thenN ?_
    refine wp_ret ?_
    refine thenR ?_
    have hm29 := hm28.nilOw (Kd.int .i64) 3
    have hm30 : Mem [] M w0 [.ow (Kd.int .i64) 3 none 0 ([] : (List Int))] w0 := hm29.sel [0] _ rfl (by kernel_rfl)
    replace H0 : some ([] : (List Int)) = some r := by rw [← H0]; simp
    obtain rfl := Option.some.inj H0
    refine ret [] [.slice none 0 0] [] hf27 (by kernel_rfl) trivial ?_
    exact ⟨_, rfl, none, 0, rfl, hm30⟩
  · refine reg [] [0, 4] [(0, .slice (some p23) x0.length c0), (4, .bool false)] [] hf22 (by kernel_rfl) trivial fun a32 hf33 => ?_
    refine thenN ?_
    refine condF hf33 (by kernel_rfl) ?_
    refine wp_skip ?_
    refine thenN ?_
    refine wp_seq ?_
    obtain ⟨g34, H0⟩ := if_guard H0
    refine inReg ?_
    refine listOf hf33 rfl (by kernel_rfl) (aLit (cs := []) (E := 3) (len := 0) (d := 5) hf33 (by kernel_rfl) (by kernel_rfl) ?_)
    intro b35 w36 a37 hbb35 hx39 hg40 hf38
    have hm41 : Mem [] M w0 [.ow (Kd.int .i64) 3 (some ⟨b35, 0, none⟩) 0 ([] : List Int), .sl (Kd.int .i64) (some p23) c0 x0] w36 := Mem.litOwn (kd := (Kd.int .i64)) (xs := ([] : List Int)) hm0 hbb35 hx39 hg40 (Els.nil) (by simp [maxLen])
    refine go 1 [] [5, 6] [(5, .slice (some ⟨b35, 0, none⟩) 0 0), (6, .slice (some p23) x0.length c0)] [] hf38 (by kernel_rfl) trivial fun a42 hf43 => ?_
    have e52 : 0 = ([] : List Int).length := rfl
    have e53 : x0.length = x0.length := rfl
    refine listOf hf43 rfl (by kernel_rfl) (aApp (kd := (Kd.int .i64)) (base := 0) (E := 3) (A := (some ⟨b35, 0, none⟩)) (B := (some p23)) (c := 0) (c2 := c0) (xs := ([] : List Int)) (ys := x0) (k := 0) (m := x0.length) (sz := 1) (d := 7) hf43 (by kernel_rfl) e52 e53 (by kernel_rfl) rfl (by kernel_rfl) (hm41.at 0 rfl) (hm41.at2 0 1 rfl rfl).2 (hm41.cpAt 1 rfl) (Nat.zero_le _) (by have := g34; omega) ?_)
    intro A44 c45 w46 a47 ho49 hg50 hr51 hf48
    have hm54 := hm41.setOwn 0 _ rfl rfl ho49 hg50 hr51
    refine go 1 [] [2] [(2, .slice A44 ((([] : List Int) ++ x0).length) c45)] [] hf48 (by kernel_rfl) trivial fun a55 hf56 => ?_
    refine endL rfl ?_
    have hm57 := hm54.sel [0] _ rfl (by kernel_rfl)
    refine thenN ?_
    refine wp_ret ?_
    have hm58 : Mem [] M w0 [.ow (Kd.int .i64) 3 A44 c45 (([] : List Int) ++ x0)] w46 := hm57.sel [0] _ rfl (by kernel_rfl)
    obtain rfl := Option.some.inj H0
    refine ret [] [.slice A44 ((([] : List Int) ++ x0).length) c45] [] hf56 (by kernel_rfl) trivial ?_
    exact ⟨_, rfl, A44, c45, rfl, hm58⟩
end Go.Proofs.Ytkcgiolledmbnab
