/- Printed by gen.py. -/
import Derived.Test.YtkcgiolledmbnaaK
namespace Go.Proofs.Ytkcgiolledmbnaa
open Go Go.RowKit
set_option linter.unusedSimpArgs false
set_option linter.unusedVariables false
set_option linter.unnecessarySimpa false
/-! ### backstitch/shape.Size$1 -/
noncomputable def shape_Size_1.f (x0 : Int) : Option Bool :=
  if x0 < 1 then (some true)
  else (some false)
set_option maxRecDepth 100000 in
set_option maxHeartbeats 4000000 in
theorem shape_Size_1.calls (M : List (Option Nat)) (w0 : World) (x0 : Int) (hm0 : Mem [] M w0 [] w0) (r : Bool) (H0 : shape_Size_1.f x0 = some r) :
    Calls Try.prog 51 [.int .i64 x0].toArray w0 (fun x w' => ∃ v, x = .returned v ∧ v = .bool r ∧ Mem [] M w0 [] w') := by
  unfold shape_Size_1.f at H0
  refine enter (n := 5) Try.func51 rfl rfl (by kernel_rfl) fun a0 (hf0 : Fr 5 a0 [(0, .int .i64 x0)]) => ?_
  refine wp_seq ?_
  refine reg [] [0] [(0, .int .i64 x0)] [] hf0 (by kernel_rfl) trivial fun a21 hf22 => ?_
  refine thenN ?_
  refine wp_seq ?_
  rcases if_split H0 with ⟨c23, H0⟩ | ⟨c23, H0⟩
  · refine reg [.bool true] [2] [(2, .bool true)] [.is (decide (x0 < 1) = true)] hf22 (by kernel_rfl) ⟨(decide_eq_true c23), trivial⟩ fun a24 hf25 => ?_
    refine thenN ?_
    refine wp_ret ?_
    have hm26 : Mem [] M w0 [] w0 := hm0.sel [] _ rfl (by kernel_rfl)
    obtain rfl := Option.some.inj H0
    refine ret [] [.bool true] [] hf25 (by kernel_rfl) trivial ?_
    exact ⟨_, rfl, rfl, hm26⟩
  · refine reg [.bool false] [2] [(2, .bool false)] [.is (decide (x0 < 1) = false)] hf22 (by kernel_rfl) ⟨(decide_eq_false c23), trivial⟩ fun a28 hf29 => ?_
    refine thenN ?_
    refine wp_ret ?_
    have hm30 : Mem [] M w0 [] w0 := hm0.sel [] _ rfl (by kernel_rfl)
    obtain rfl := Option.some.inj H0
    refine ret [] [.bool false] [] hf29 (by kernel_rfl) trivial ?_
    exact ⟨_, rfl, rfl, hm30⟩

/-! ### slices.IndexFunc[[]int,int] -/
noncomputable def slices_IndexFunc_int_shape_Size_1.l0 (x0 : (List Int)) (s25 : Int) : Step Int (Out2 Int Int) :=
  if s25 < (x0.length : Int) then (if 0 ≤ s25 ∧ s25 < (x0.length : Int) then (bindS (shape_Size_1.f (rd x0 s25)) fun r38 =>
  if r38 = true then (.done (.ret s25))
  else (.next (w64 (s25 + 1))))
  else .bad)
  else (.done (.go s25))
noncomputable def slices_IndexFunc_int_shape_Size_1.f (x0 : (List Int)) : Option Int :=
  (loop (slices_IndexFunc_int_shape_Size_1.l0 x0) 0).bind fun r26 =>
  r26.on (fun yr26 =>
  some (-1)) (fun y => some y)
set_option maxRecDepth 100000 in
set_option maxHeartbeats 4000000 in
theorem slices_IndexFunc_int_shape_Size_1.calls (M : List (Option Nat)) (w0 : World) (x0 : (List Int)) (A0 : Option Addr) (n0 c0 : Nat) (e0 : n0 = x0.length) (hm0 : Mem [] M w0 [.sl (Kd.int .i64) A0 c0 x0] w0) (r : Int) (H0 : slices_IndexFunc_int_shape_Size_1.f x0 = some r) :
    Calls Try.prog 63 [.slice A0 n0 c0, .func (.func 51) #[] #[]].toArray w0 (fun x w' => ∃ v, x = .returned v ∧ v = .int .i64 r ∧ Mem [] M w0 [] w') := by
  subst e0
  unfold slices_IndexFunc_int_shape_Size_1.f at H0
  refine enter (n := 19) Try.func63 rfl rfl (by kernel_rfl) fun a0 (hf0 : Fr 19 a0 [(0, .slice A0 x0.length c0), (1, .func (.func 51) #[] #[])]) => ?_
  refine wp_seq ?_
  refine reg [] [0, 1] [(0, .slice A0 x0.length c0), (1, .func (.func 51) #[] #[])] [] hf0 (by kernel_rfl) trivial fun a21 hf22 => ?_
  refine thenN ?_
  refine wp_seq ?_
  refine wp_seq ?_
  refine reg [] [0, 1, 7, 8] [(0, .slice A0 x0.length c0), (1, .func (.func 51) #[] #[]), (7, .int .i64 (x0.length : Int)), (8, .int .i64 0)] [] hf22 (by kernel_rfl) trivial fun a23 hf24 => ?_
  refine thenN ?_
  obtain ⟨r26, hr26, H0⟩ := ob_split H0
  refine wpBlock (Mid := fun (a : Act) (w : World) => ∃ yr26 : Int, r26 = .go yr26 ∧ Fr 19 a [(0, .slice A0 x0.length c0), (1, .func (.func 51) #[] #[]), (7, .int .i64 (x0.length : Int)), (8, .int .i64 yr26)] ∧ Mem [] M w0 [.sl (Kd.int .i64) A0 c0 x0] w) ?_ ?_
  · refine wpLoop (slices_IndexFunc_int_shape_Size_1.l0 x0) r26 (fun (s25 : Int) (a : Act) (w : World) => Fr 19 a [(0, .slice A0 x0.length c0), (1, .func (.func 51) #[] #[]), (7, .int .i64 (x0.length : Int)), (8, .int .i64 s25)] ∧ Mem [] M w0 [.sl (Kd.int .i64) A0 c0 x0] w) 0 hr26 ⟨hf24.sel (l := [0, 1, 7, 8]) (by kernel_rfl), hm0.sel [0] _ rfl (by kernel_rfl)⟩ ?_
    rintro g27 s25 a28 w29 H1 ⟨hf30, hm31⟩
    unfold slices_IndexFunc_int_shape_Size_1.l0 at H1
    refine wp_seq ?_
    rcases ifS_split H1 with ⟨c32, H1⟩ | ⟨c32, H1⟩
    · refine reg [.bool true] [0, 1, 7, 8, 9] [(0, .slice A0 x0.length c0), (1, .func (.func 51) #[] #[]), (7, .int .i64 (x0.length : Int)), (8, .int .i64 s25), (9, .bool true)] [.is (decide (s25 < (x0.length : Int)) = true)] hf30 (by kernel_rfl) ⟨(decide_eq_true c32), trivial⟩ fun a33 hf34 => ?_
      refine thenN ?_
      refine wp_seq ?_
      refine condT hf34 (by kernel_rfl) ?_
      refine wp_skip ?_
      refine thenN ?_
      refine wp_seq ?_
      refine wp_block ?_
      refine wp_seq ?_
      refine reg [] [0, 1, 5, 7, 8] [(0, .slice A0 x0.length c0), (1, .func (.func 51) #[] #[]), (5, .int .i64 s25), (7, .int .i64 (x0.length : Int)), (8, .int .i64 s25)] [] hf34 (by kernel_rfl) trivial fun a35 hf36 => ?_
      refine thenN ?_
      refine wp_seq ?_
      obtain ⟨g37, H1⟩ := ifS_guard H1
      obtain ⟨r38, hr38, H1⟩ := obS_split H1
      have q39 := (hm31.slAt 0 rfl).int s25 g37.1 g37.2
      refine inReg ?_
      refine go 5 [.int .i64 (rd x0 s25)] [0, 1, 5, 7, 8, 11, 15] [(0, .slice A0 x0.length c0), (1, .func (.func 51) #[] #[]), (5, .int .i64 s25), (7, .int .i64 (x0.length : Int)), (8, .int .i64 s25), (11, .func (.func 51) #[] #[]), (15, .int .i64 (rd x0 s25))] [.is (Option.isSome A0 = true), .is (0 ≤ s25 ∧ s25 < (x0.length : Int)), .cell ((ad A0).add ((s25).toNat * 1)) (.int .i64 (rd x0 s25))] hf36 (by kernel_rfl) ⟨q39.1, g37, q39.2, trivial⟩ fun a40 hf41 => ?_
      refine listOf hf41 rfl (by kernel_rfl) (aCall (fid := 51) (args := [.int .i64 (rd x0 s25)]) (d := 16) hf41 (by kernel_rfl) (by kernel_rfl) callable51 (shape_Size_1.calls _ _ (rd x0 s25) (hm31.give [] [] rfl rfl) r38 hr38) ?_)
      rintro _ w42 a43 ⟨rfl, hk45⟩ hf44
      have hm46 := hm31.still hk45.cum.none
      refine endL rfl ?_
      refine thenN ?_
      rcases ifbS_split H1 with ⟨c47, H1⟩ | ⟨c47, H1⟩
      · rw [c47] at hf44
        refine condT hf44 (by kernel_rfl) ?_
        refine wp_seq ?_
        refine reg [] [4] [(4, .int .i64 s25)] [] hf44 (by kernel_rfl) trivial fun a48 hf49 => ?_
        have hm50 := hm46.sel [] _ rfl (by kernel_rfl)
        refine thenN ?_
        refine wp_ret ?_
        refine blkR ?_
        refine thenR ?_
        refine thenR ?_
        refine .inr ⟨rfl, ?_⟩
        refine thenR ?_
        have hm51 : Mem [] M w0 [] w42 := hm50.sel [] _ rfl (by kernel_rfl)
        obtain rfl := Option.some.inj H1
        obtain rfl := Option.some.inj H0
        refine ret [] [.int .i64 s25] [] hf49 (by kernel_rfl) trivial ?_
        exact ⟨_, rfl, rfl, hm51⟩
      · rw [c47] at hf44
        refine condF hf44 (by kernel_rfl) ?_
        refine wp_skip ?_
        refine blkN ?_
        refine thenN ?_
        refine reg [] [0, 1, 7, 8] [(0, .slice A0 x0.length c0), (1, .func (.func 51) #[] #[]), (7, .int .i64 (x0.length : Int)), (8, .int .i64 (w64 (s25 + 1)))] [] hf44 (by kernel_rfl) trivial fun a53 hf54 => ?_
        exact ⟨(w64 (s25 + 1)), H1, hf54.sel (l := [0, 1, 7, 8]) (by kernel_rfl), hm46.sel [0] _ rfl (by kernel_rfl)⟩
    · refine reg [.bool false] [0, 1, 7, 8, 9] [(0, .slice A0 x0.length c0), (1, .func (.func 51) #[] #[]), (7, .int .i64 (x0.length : Int)), (8, .int .i64 s25), (9, .bool false)] [.is (decide (s25 < (x0.length : Int)) = false)] hf30 (by kernel_rfl) ⟨(decide_eq_false c32), trivial⟩ fun a55 hf56 => ?_
      refine thenN ?_
      refine wp_seq ?_
      refine condF hf56 (by kernel_rfl) ?_
      refine wp_exit ?_
      refine thenE ?_
      refine thenE ?_
      obtain rfl := Option.some.inj H1
      exact .inl ⟨rfl, s25, rfl, hf56.sel (l := [0, 1, 7, 8]) (by kernel_rfl), hm31.sel [0] _ rfl (by kernel_rfl)⟩
  rintro a57 w58 ⟨yr26, rfl, hf59, hm60⟩
  refine thenN ?_
  refine wp_seq ?_
  refine reg [] [4] [(4, .int .i64 (-1))] [] hf59 (by kernel_rfl) trivial fun a61 hf62 => ?_
  have hm63 := hm60.sel [] _ rfl (by kernel_rfl)
  refine thenN ?_
  refine wp_ret ?_
  have hm65 : Mem [] M w0 [] w58 := hm63.sel [] _ rfl (by kernel_rfl)
  obtain rfl := Option.some.inj H0
  refine ret [] [.int .i64 (-1)] [] hf62 (by kernel_rfl) trivial ?_
  exact ⟨_, rfl, rfl, hm65⟩

/-! ### slices.ContainsFunc[[]int,int] -/
noncomputable def slices_ContainsFunc_int_shape_Size_1.f (x0 : (List Int)) : Option Bool :=
  (slices_IndexFunc_int_shape_Size_1.f x0).bind fun r23 =>
  if 0 ≤ r23 then (some true)
  else (some false)
set_option maxRecDepth 100000 in
set_option maxHeartbeats 4000000 in
theorem slices_ContainsFunc_int_shape_Size_1.calls (M : List (Option Nat)) (w0 : World) (x0 : (List Int)) (A0 : Option Addr) (n0 c0 : Nat) (e0 : n0 = x0.length) (hm0 : Mem [] M w0 [.sl (Kd.int .i64) A0 c0 x0] w0) (r : Bool) (H0 : slices_ContainsFunc_int_shape_Size_1.f x0 = some r) :
    Calls Try.prog 50 [.slice A0 n0 c0, .func (.func 51) #[] #[]].toArray w0 (fun x w' => ∃ v, x = .returned v ∧ v = .bool r ∧ Mem [] M w0 [] w') := by
  subst e0
  unfold slices_ContainsFunc_int_shape_Size_1.f at H0
  refine enter (n := 9) Try.func50 rfl rfl (by kernel_rfl) fun a0 (hf0 : Fr 9 a0 [(0, .slice A0 x0.length c0), (1, .func (.func 51) #[] #[])]) => ?_
  refine wp_seq ?_
  refine reg [] [0, 1] [(0, .slice A0 x0.length c0), (1, .func (.func 51) #[] #[])] [] hf0 (by kernel_rfl) trivial fun a21 hf22 => ?_
  refine thenN ?_
  refine wp_seq ?_
  obtain ⟨r23, hr23, H0⟩ := ob_split H0
  rcases if_split H0 with ⟨c24, H0⟩ | ⟨c24, H0⟩
  · refine inReg ?_
    refine go 2 [] [5, 6] [(5, .slice A0 x0.length c0), (6, .func (.func 51) #[] #[])] [] hf22 (by kernel_rfl) trivial fun a25 hf26 => ?_
    refine listOf hf26 rfl (by kernel_rfl) (aCall (fid := 63) (args := [.slice A0 x0.length c0, .func (.func 51) #[] #[]]) (d := 7) hf26 (by kernel_rfl) (by kernel_rfl) callable63 (slices_IndexFunc_int_shape_Size_1.calls _ _ x0 A0 x0.length c0 rfl (hm0.give [0] [.sl (Kd.int .i64) A0 c0 x0] rfl rfl) r23 hr23) ?_)
    rintro _ w27 a28 ⟨rfl, hk30⟩ hf29
    have hm31 := hm0.still hk30.cum.none
    refine go 2 [.bool true] [4] [(4, .bool true)] [.is (decide (0 ≤ r23) = true)] hf29 (by kernel_rfl) ⟨(decide_eq_true c24), trivial⟩ fun a32 hf33 => ?_
    refine endL rfl ?_
    have hm34 := hm31.sel [] _ rfl (by kernel_rfl)
    refine thenN ?_
    refine wp_ret ?_
    have hm35 : Mem [] M w0 [] w27 := hm34.sel [] _ rfl (by kernel_rfl)
    obtain rfl := Option.some.inj H0
    refine ret [] [.bool true] [] hf33 (by kernel_rfl) trivial ?_
    exact ⟨_, rfl, rfl, hm35⟩
  · refine inReg ?_
    refine go 2 [] [5, 6] [(5, .slice A0 x0.length c0), (6, .func (.func 51) #[] #[])] [] hf22 (by kernel_rfl) trivial fun a37 hf38 => ?_
    refine listOf hf38 rfl (by kernel_rfl) (aCall (fid := 63) (args := [.slice A0 x0.length c0, .func (.func 51) #[] #[]]) (d := 7) hf38 (by kernel_rfl) (by kernel_rfl) callable63 (slices_IndexFunc_int_shape_Size_1.calls _ _ x0 A0 x0.length c0 rfl (hm0.give [0] [.sl (Kd.int .i64) A0 c0 x0] rfl rfl) r23 hr23) ?_)
    rintro _ w39 a40 ⟨rfl, hk42⟩ hf41
    have hm43 := hm0.still hk42.cum.none
    refine go 2 [.bool false] [4] [(4, .bool false)] [.is (decide (0 ≤ r23) = false)] hf41 (by kernel_rfl) ⟨(decide_eq_false c24), trivial⟩ fun a44 hf45 => ?_
    refine endL rfl ?_
    have hm46 := hm43.sel [] _ rfl (by kernel_rfl)
    refine thenN ?_
    refine wp_ret ?_
    have hm47 : Mem [] M w0 [] w39 := hm46.sel [] _ rfl (by kernel_rfl)
    obtain rfl := Option.some.inj H0
    refine ret [] [.bool false] [] hf45 (by kernel_rfl) trivial ?_
    exact ⟨_, rfl, rfl, hm47⟩

/-! ### backstitch/shape.Size -/
noncomputable def shape_Size.l0 (x0 : (List Int)) (s51 : (Int × Int)) : Step (Int × Int) (Out2 (Int × Int) (Int × Int)) :=
  if s51.2 < (x0.length : Int) then (if 0 ≤ s51.2 ∧ s51.2 < (x0.length : Int) then (if s51.1 ≠ 0 then (if (w64 (Int.tdiv 4096 s51.1)) < (rd x0 s51.2) then (.done (.ret (0, 3)))
  else (.next ((w64 (s51.1 * (rd x0 s51.2))), (w64 (s51.2 + 1)))))
  else .bad)
  else .bad)
  else (.done (.go (s51.1, s51.2)))
noncomputable def shape_Size.f (x0 : (List Int)) : Option (Int × Int) :=
  if 4 < (x0.length : Int) then (some (0, 2))
  else ((slices_ContainsFunc_int_shape_Size_1.f x0).bind fun r31 =>
  if r31 = true then (some (0, 2))
  else ((loop (shape_Size.l0 x0) (1, 0)).bind fun r52 =>
  r52.on (fun yr52 =>
  some (yr52.1, 0)) (fun y => some y)))
set_option maxRecDepth 100000 in
set_option maxHeartbeats 4000000 in
theorem shape_Size.calls (M : List (Option Nat)) (w0 : World) (x0 : (List Int)) (A0 : Option Addr) (n0 c0 : Nat) (e0 : n0 = x0.length) (hm0 : Mem [] M w0 [.sl (Kd.int .i64) A0 c0 x0] w0) (r : (Int × Int)) (H0 : shape_Size.f x0 = some r) :
    Calls Try.prog 21 [.slice A0 n0 c0].toArray w0 (fun x w' => ∃ v, x = .returned v ∧ v = .tuple #[.int .i64 r.1, .int .i64 r.2] ∧ Mem [] M w0 [] w') := by
  subst e0
  unfold shape_Size.f at H0
  refine enter (n := 29) Try.func21 rfl rfl (by kernel_rfl) fun a0 (hf0 : Fr 29 a0 [(0, .slice A0 x0.length c0)]) => ?_
  refine wp_seq ?_
  refine reg [] [0] [(0, .slice A0 x0.length c0)] [] hf0 (by kernel_rfl) trivial fun a21 hf22 => ?_
  refine thenN ?_
  refine wp_seq ?_
  refine wp_seq ?_
  rcases if_split H0 with ⟨c23, H0⟩ | ⟨c23, H0⟩
  · refine reg [.bool true] [0, 13] [(0, .slice A0 x0.length c0), (13, .bool true)] [.is (decide (4 < (x0.length : Int)) = true)] hf22 (by kernel_rfl) ⟨(decide_eq_true c23), trivial⟩ fun a24 hf25 => ?_
    refine thenN ?_
    refine condT hf25 (by kernel_rfl) ?_
    refine wp_seq ?_
    refine reg [] [2, 3] [(2, .int .i64 0), (3, .int .i64 2)] [] hf25 (by kernel_rfl) trivial fun a26 hf27 => ?_
    have hm28 := hm0.sel [] _ rfl (by kernel_rfl)
    refine thenN ?_
    refine wp_ret ?_
    refine thenR ?_
    have hm29 : Mem [] M w0 [] w0 := hm28.sel [] _ rfl (by kernel_rfl)
    obtain rfl := Option.some.inj H0
    refine ret [] [.int .i64 0, .int .i64 2] [] hf27 (by kernel_rfl) trivial ?_
    exact ⟨_, rfl, rfl, hm29⟩
  · obtain ⟨r31, hr31, H0⟩ := ob_split H0
    refine inReg ?_
    refine go 5 [.bool false] [0, 10, 11] [(0, .slice A0 x0.length c0), (10, .bool false), (11, .slice A0 x0.length c0)] [.is (decide (4 < (x0.length : Int)) = false)] hf22 (by kernel_rfl) ⟨(decide_eq_false c23), trivial⟩ fun a32 hf33 => ?_
    refine listOf hf33 rfl (by kernel_rfl) (aCall (fid := 50) (args := [.slice A0 x0.length c0, .func (.func 51) #[] #[]]) (d := 12) hf33 (by kernel_rfl) (by kernel_rfl) callable50 (slices_ContainsFunc_int_shape_Size_1.calls _ _ x0 A0 x0.length c0 rfl (hm0.give [0] [.sl (Kd.int .i64) A0 c0 x0] rfl rfl) r31 hr31) ?_)
    rintro _ w34 a35 ⟨rfl, hk37⟩ hf36
    have hm38 := hm0.still hk37.cum.none
    refine go 1 [] [0, 13] [(0, .slice A0 x0.length c0), (13, .bool r31)] [] hf36 (by kernel_rfl) trivial fun a39 hf40 => ?_
    refine endL rfl ?_
    refine thenN ?_
    rcases ifb_split H0 with ⟨c41, H0⟩ | ⟨c41, H0⟩
    · rw [c41] at hf40
      refine condT hf40 (by kernel_rfl) ?_
      refine wp_seq ?_
      refine reg [] [2, 3] [(2, .int .i64 0), (3, .int .i64 2)] [] hf40 (by kernel_rfl) trivial fun a42 hf43 => ?_
      have hm44 := hm38.sel [] _ rfl (by kernel_rfl)
      refine thenN ?_
      refine wp_ret ?_
      refine thenR ?_
      have hm45 : Mem [] M w0 [] w34 := hm44.sel [] _ rfl (by kernel_rfl)
      obtain rfl := Option.some.inj H0
      refine ret [] [.int .i64 0, .int .i64 2] [] hf43 (by kernel_rfl) trivial ?_
      exact ⟨_, rfl, rfl, hm45⟩
    · rw [c41] at hf40
      refine condF hf40 (by kernel_rfl) ?_
      refine wp_skip ?_
      refine thenN ?_
      refine wp_seq ?_
      refine reg [] [0, 4] [(0, .slice A0 x0.length c0), (4, .int .i64 1)] [] hf40 (by kernel_rfl) trivial fun a47 hf48 => ?_
      refine thenN ?_
      refine wp_seq ?_
      refine wp_seq ?_
      refine reg [] [4, 14, 15, 16] [(4, .int .i64 1), (14, .slice A0 x0.length c0), (15, .int .i64 (x0.length : Int)), (16, .int .i64 0)] [] hf48 (by kernel_rfl) trivial fun a49 hf50 => ?_
      refine thenN ?_
      obtain ⟨r52, hr52, H0⟩ := ob_split H0
      refine wpBlock (Mid := fun (a : Act) (w : World) => ∃ yr52 : (Int × Int), r52 = .go yr52 ∧ Fr 29 a [(4, .int .i64 yr52.1), (14, .slice A0 x0.length c0), (15, .int .i64 (x0.length : Int)), (16, .int .i64 yr52.2)] ∧ Mem [] M w0 [.sl (Kd.int .i64) A0 c0 x0] w) ?_ ?_
      · refine wpLoop (shape_Size.l0 x0) r52 (fun (s51 : (Int × Int)) (a : Act) (w : World) => Fr 29 a [(4, .int .i64 s51.1), (14, .slice A0 x0.length c0), (15, .int .i64 (x0.length : Int)), (16, .int .i64 s51.2)] ∧ Mem [] M w0 [.sl (Kd.int .i64) A0 c0 x0] w) (1, 0) hr52 ⟨hf50.sel (l := [4, 14, 15, 16]) (by kernel_rfl), hm38.sel [0] _ rfl (by kernel_rfl)⟩ ?_
        rintro g53 s51 a54 w55 H1 ⟨hf56, hm57⟩
        unfold shape_Size.l0 at H1
        refine wp_seq ?_
        rcases ifS_split H1 with ⟨c58, H1⟩ | ⟨c58, H1⟩
        · refine reg [.bool true] [4, 14, 15, 16, 17] [(4, .int .i64 s51.1), (14, .slice A0 x0.length c0), (15, .int .i64 (x0.length : Int)), (16, .int .i64 s51.2), (17, .bool true)] [.is (decide (s51.2 < (x0.length : Int)) = true)] hf56 (by kernel_rfl) ⟨(decide_eq_true c58), trivial⟩ fun a59 hf60 => ?_
          refine thenN ?_
          refine wp_seq ?_
          refine condT hf60 (by kernel_rfl) ?_
          refine wp_skip ?_
          refine thenN ?_
          refine wp_seq ?_
          refine wp_block ?_
          refine wp_seq ?_
          obtain ⟨g61, H1⟩ := ifS_guard H1
          have q62 := (hm57.slAt 0 rfl).int s51.2 g61.1 g61.2
          refine reg [.int .i64 (rd x0 s51.2)] [4, 6, 14, 15, 16] [(4, .int .i64 s51.1), (6, .int .i64 (rd x0 s51.2)), (14, .slice A0 x0.length c0), (15, .int .i64 (x0.length : Int)), (16, .int .i64 s51.2)] [.is (Option.isSome A0 = true), .is (0 ≤ s51.2 ∧ s51.2 < (x0.length : Int)), .cell ((ad A0).add ((s51.2).toNat * 1)) (.int .i64 (rd x0 s51.2))] hf60 (by kernel_rfl) ⟨q62.1, g61, q62.2, trivial⟩ fun a63 hf65 => ?_
          refine thenN ?_
          refine wp_seq ?_
          refine wp_seq ?_
          obtain ⟨g66, H1⟩ := ifS_guard H1
          rcases ifS_split H1 with ⟨c67, H1⟩ | ⟨c67, H1⟩
          · refine reg [.bool true] [4, 6, 14, 15, 16, 23] [(4, .int .i64 s51.1), (6, .int .i64 (rd x0 s51.2)), (14, .slice A0 x0.length c0), (15, .int .i64 (x0.length : Int)), (16, .int .i64 s51.2), (23, .bool true)] [.is (s51.1 ≠ 0), .is (decide ((w64 (Int.tdiv 4096 s51.1)) < (rd x0 s51.2)) = true)] hf65 (by kernel_rfl) ⟨g66, (decide_eq_true c67), trivial⟩ fun a68 hf69 => ?_
            refine thenN ?_
            refine condT hf69 (by kernel_rfl) ?_
            refine wp_seq ?_
            refine reg [] [2, 3] [(2, .int .i64 0), (3, .int .i64 3)] [] hf69 (by kernel_rfl) trivial fun a70 hf71 => ?_
            have hm72 := hm57.sel [] _ rfl (by kernel_rfl)
            refine thenN ?_
            refine wp_ret ?_
            refine thenR ?_
            refine blkR ?_
            refine thenR ?_
            refine thenR ?_
            refine .inr ⟨rfl, ?_⟩
            refine thenR ?_
            have hm73 : Mem [] M w0 [] w55 := hm72.sel [] _ rfl (by kernel_rfl)
            obtain rfl := Option.some.inj H1
            obtain rfl := Option.some.inj H0
            refine ret [] [.int .i64 0, .int .i64 3] [] hf71 (by kernel_rfl) trivial ?_
            exact ⟨_, rfl, rfl, hm73⟩
          · refine reg [.bool false] [4, 6, 14, 15, 16, 23] [(4, .int .i64 s51.1), (6, .int .i64 (rd x0 s51.2)), (14, .slice A0 x0.length c0), (15, .int .i64 (x0.length : Int)), (16, .int .i64 s51.2), (23, .bool false)] [.is (s51.1 ≠ 0), .is (decide ((w64 (Int.tdiv 4096 s51.1)) < (rd x0 s51.2)) = false)] hf65 (by kernel_rfl) ⟨g66, (decide_eq_false c67), trivial⟩ fun a75 hf76 => ?_
            refine thenN ?_
            refine condF hf76 (by kernel_rfl) ?_
            refine wp_skip ?_
            refine thenN ?_
            refine reg [] [4, 14, 15, 16] [(4, .int .i64 (w64 (s51.1 * (rd x0 s51.2)))), (14, .slice A0 x0.length c0), (15, .int .i64 (x0.length : Int)), (16, .int .i64 s51.2)] [] hf76 (by kernel_rfl) trivial fun a77 hf78 => ?_
            refine blkN ?_
            refine thenN ?_
            refine reg [] [4, 14, 15, 16] [(4, .int .i64 (w64 (s51.1 * (rd x0 s51.2)))), (14, .slice A0 x0.length c0), (15, .int .i64 (x0.length : Int)), (16, .int .i64 (w64 (s51.2 + 1)))] [] hf78 (by kernel_rfl) trivial fun a79 hf80 => ?_
            exact ⟨((w64 (s51.1 * (rd x0 s51.2))), (w64 (s51.2 + 1))), H1, hf80.sel (l := [4, 14, 15, 16]) (by kernel_rfl), hm57.sel [0] _ rfl (by kernel_rfl)⟩
        · refine reg [.bool false] [4, 14, 15, 16, 17] [(4, .int .i64 s51.1), (14, .slice A0 x0.length c0), (15, .int .i64 (x0.length : Int)), (16, .int .i64 s51.2), (17, .bool false)] [.is (decide (s51.2 < (x0.length : Int)) = false)] hf56 (by kernel_rfl) ⟨(decide_eq_false c58), trivial⟩ fun a81 hf82 => ?_
          refine thenN ?_
          refine wp_seq ?_
          refine condF hf82 (by kernel_rfl) ?_
          refine wp_exit ?_
          refine thenE ?_
          refine thenE ?_
          obtain rfl := Option.some.inj H1
          exact .inl ⟨rfl, (s51.1, s51.2), rfl, hf82.sel (l := [4, 14, 15, 16]) (by kernel_rfl), hm57.sel [0] _ rfl (by kernel_rfl)⟩
      rintro a83 w84 ⟨yr52, rfl, hf85, hm86⟩
      refine thenN ?_
      refine wp_seq ?_
      refine reg [] [2, 3] [(2, .int .i64 yr52.1), (3, .int .i64 0)] [] hf85 (by kernel_rfl) trivial fun a87 hf88 => ?_
      have hm89 := hm86.sel [] _ rfl (by kernel_rfl)
      refine thenN ?_
      refine wp_ret ?_
      have hm90 : Mem [] M w0 [] w84 := hm89.sel [] _ rfl (by kernel_rfl)
      obtain rfl := Option.some.inj H0
      refine ret [] [.int .i64 yr52.1, .int .i64 0] [] hf88 (by kernel_rfl) trivial ?_
      exact ⟨_, rfl, rfl, hm90⟩

/-! ### backstitch/tensor.May -/
noncomputable def tensor_May.f (x0 : Tensor) : Option Bool :=
  (shape_Size.f x0.Shape).bind fun r30 =>
  if r30.2 = 0 then (if (x0.Data.length : Int) = r30.1 then (some true)
  else (some false))
  else (some false)
set_option maxRecDepth 100000 in
set_option maxHeartbeats 4000000 in
theorem tensor_May.calls (M : List (Option Nat)) (w0 : World) (x0 : Tensor) (A0_0 : Option Addr) (n0_0 c0_0 : Nat) (e0_0 : n0_0 = x0.Shape.length) (A0_1 : Option Addr) (n0_1 c0_1 : Nat) (e0_1 : n0_1 = x0.Data.length) (hm0 : Mem [] M w0 [.sl (Kd.int .i64) A0_0 c0_0 x0.Shape, .sl Kd.float A0_1 c0_1 x0.Data] w0) (r : Bool) (H0 : tensor_May.f x0 = some r) :
    Calls Try.prog 58 [.agg #[.slice A0_0 n0_0 c0_0, .slice A0_1 n0_1 c0_1]].toArray w0 (fun x w' => ∃ v, x = .returned v ∧ v = .bool r ∧ Mem [] M w0 [] w') := by
  subst e0_0
  subst e0_1
  unfold tensor_May.f at H0
  refine enter (n := 20) Try.func58 rfl rfl (by kernel_rfl) fun a0 (hf0 : Fr 20 a0 [(0, .agg #[.slice A0_0 x0.Shape.length c0_0, .slice A0_1 x0.Data.length c0_1])]) => ?_
  refine wp_seq ?_
  refine inReg ?_
  refine listOf hf0 rfl (by kernel_rfl) (aNew (cs := [.slice A0_0 x0.Shape.length c0_0, .slice A0_1 x0.Data.length c0_1]) (T := 42) (d := 1) hf0 (by kernel_rfl) (by kernel_rfl) ?_)
  intro b21 w22 a23 hbb21 hx25 hg26 hf24
  have hm27 := hm0.box hbb21 hx25 hg26
  refine go 1 [] [1] [(1, .pointer (some ⟨b21, 0, none⟩))] [] hf24 (by kernel_rfl) trivial fun a28 hf29 => ?_
  refine endL rfl ?_
  refine thenN ?_
  refine wp_seq ?_
  obtain ⟨r30, hr30, H0⟩ := ob_split H0
  refine inReg ?_
  refine go 2 [.slice A0_0 x0.Shape.length c0_0] [1, 7] [(1, .pointer (some ⟨b21, 0, none⟩)), (7, .slice A0_0 x0.Shape.length c0_0)] [.cell ⟨b21, 0, none⟩ (.slice A0_0 x0.Shape.length c0_0)] hf29 (by kernel_rfl) ⟨(hm27.cell 0 rfl rfl), trivial⟩ fun a31 hf32 => ?_
  refine listOf hf32 rfl (by kernel_rfl) (aCall (fid := 21) (args := [.slice A0_0 x0.Shape.length c0_0]) (d := 8) hf32 (by kernel_rfl) (by kernel_rfl) callable21 (shape_Size.calls _ _ x0.Shape A0_0 x0.Shape.length c0_0 rfl (hm27.give [1] [.sl (Kd.int .i64) A0_0 c0_0 x0.Shape] rfl rfl) r30 hr30) ?_)
  rintro _ w33 a34 ⟨rfl, hk36⟩ hf35
  have hm37 := hm27.still hk36.cum.none
  refine go 5 [] [1, 3, 4] [(1, .pointer (some ⟨b21, 0, none⟩)), (3, .int .i64 r30.1), (4, .int .i64 r30.2)] [] hf35 (by kernel_rfl) trivial fun a38 hf39 => ?_
  refine endL rfl ?_
  refine thenN ?_
  refine wp_seq ?_
  rcases if_split H0 with ⟨c40, H0⟩ | ⟨c40, H0⟩
  · rcases if_split H0 with ⟨c41, H0⟩ | ⟨c41, H0⟩
    · refine reg [.bool true, .slice A0_1 x0.Data.length c0_1, .bool true] [2] [(2, .bool true)] [.is (((r30.2 : Int) == 0) = true), .cell ⟨b21, 1, none⟩ (.slice A0_1 x0.Data.length c0_1), .is ((((x0.Data.length : Int) : Int) == r30.1) = true)] hf39 (by kernel_rfl) ⟨(eqT c40), (hm37.cell 0 rfl rfl), (eqT c41), trivial⟩ fun a42 hf43 => ?_
      have hm44 := hm37.sel [] _ rfl (by kernel_rfl)
      refine thenN ?_
      refine wp_ret ?_
      have hm45 : Mem [] M w0 [] w33 := hm44.sel [] _ rfl (by kernel_rfl)
      obtain rfl := Option.some.inj H0
      refine ret [] [.bool true] [] hf43 (by kernel_rfl) trivial ?_
      exact ⟨_, rfl, rfl, hm45⟩
    · refine reg [.bool true, .slice A0_1 x0.Data.length c0_1, .bool false] [2] [(2, .bool false)] [.is (((r30.2 : Int) == 0) = true), .cell ⟨b21, 1, none⟩ (.slice A0_1 x0.Data.length c0_1), .is ((((x0.Data.length : Int) : Int) == r30.1) = false)] hf39 (by kernel_rfl) ⟨(eqT c40), (hm37.cell 0 rfl rfl), (eqF c41), trivial⟩ fun a47 hf48 => ?_
      have hm49 := hm37.sel [] _ rfl (by kernel_rfl)
      refine thenN ?_
      refine wp_ret ?_
      have hm50 : Mem [] M w0 [] w33 := hm49.sel [] _ rfl (by kernel_rfl)
      obtain rfl := Option.some.inj H0
      refine ret [] [.bool false] [] hf48 (by kernel_rfl) trivial ?_
      exact ⟨_, rfl, rfl, hm50⟩
  · refine reg [.bool false] [2] [(2, .bool false)] [.is (((r30.2 : Int) == 0) = false)] hf39 (by kernel_rfl) ⟨(eqF c40), trivial⟩ fun a52 hf53 => ?_
    have hm54 := hm37.sel [] _ rfl (by kernel_rfl)
    refine thenN ?_
    refine wp_ret ?_
    have hm55 : Mem [] M w0 [] w33 := hm54.sel [] _ rfl (by kernel_rfl)
    obtain rfl := Option.some.inj H0
    refine ret [] [.bool false] [] hf53 (by kernel_rfl) trivial ?_
    exact ⟨_, rfl, rfl, hm55⟩

/-! ### backstitch/matrix.flat -/
noncomputable def matrix_flat.f (x0 : Tensor) : Option Bool :=
  (tensor_May.f x0).bind fun r30 =>
  if r30 = true then (if (x0.Shape.length : Int) = 2 then (some true)
  else (some false))
  else (some false)
set_option maxRecDepth 100000 in
set_option maxHeartbeats 4000000 in
theorem matrix_flat.calls (M : List (Option Nat)) (w0 : World) (x0 : Tensor) (A0_0 : Option Addr) (n0_0 c0_0 : Nat) (e0_0 : n0_0 = x0.Shape.length) (A0_1 : Option Addr) (n0_1 c0_1 : Nat) (e0_1 : n0_1 = x0.Data.length) (hm0 : Mem [] M w0 [.sl (Kd.int .i64) A0_0 c0_0 x0.Shape, .sl Kd.float A0_1 c0_1 x0.Data] w0) (r : Bool) (H0 : matrix_flat.f x0 = some r) :
    Calls Try.prog 53 [.agg #[.slice A0_0 n0_0 c0_0, .slice A0_1 n0_1 c0_1]].toArray w0 (fun x w' => ∃ v, x = .returned v ∧ v = .bool r ∧ Mem [] M w0 [] w') := by
  subst e0_0
  subst e0_1
  unfold matrix_flat.f at H0
  refine enter (n := 11) Try.func53 rfl rfl (by kernel_rfl) fun a0 (hf0 : Fr 11 a0 [(0, .agg #[.slice A0_0 x0.Shape.length c0_0, .slice A0_1 x0.Data.length c0_1])]) => ?_
  refine wp_seq ?_
  refine inReg ?_
  refine listOf hf0 rfl (by kernel_rfl) (aNew (cs := [.slice A0_0 x0.Shape.length c0_0, .slice A0_1 x0.Data.length c0_1]) (T := 42) (d := 1) hf0 (by kernel_rfl) (by kernel_rfl) ?_)
  intro b21 w22 a23 hbb21 hx25 hg26 hf24
  have hm27 := hm0.box hbb21 hx25 hg26
  refine go 1 [] [1] [(1, .pointer (some ⟨b21, 0, none⟩))] [] hf24 (by kernel_rfl) trivial fun a28 hf29 => ?_
  refine endL rfl ?_
  refine thenN ?_
  refine wp_seq ?_
  obtain ⟨r30, hr30, H0⟩ := ob_split H0
  rcases ifb_split H0 with ⟨c31, H0⟩ | ⟨c31, H0⟩
  · rcases if_split H0 with ⟨c32, H0⟩ | ⟨c32, H0⟩
    · refine inReg ?_
      refine go 1 [.agg #[.slice A0_0 x0.Shape.length c0_0, .slice A0_1 x0.Data.length c0_1]] [1, 3] [(1, .pointer (some ⟨b21, 0, none⟩)), (3, .agg #[.slice A0_0 x0.Shape.length c0_0, .slice A0_1 x0.Data.length c0_1])] [.cell ⟨b21, 0, none⟩ (.slice A0_0 x0.Shape.length c0_0), .cell ⟨b21, 1, none⟩ (.slice A0_1 x0.Data.length c0_1)] hf29 (by kernel_rfl) ⟨(hm27.cell 0 rfl rfl), (hm27.cell 0 rfl rfl), trivial⟩ fun a33 hf34 => ?_
      refine listOf hf34 rfl (by kernel_rfl) (aCall (fid := 58) (args := [.agg #[.slice A0_0 x0.Shape.length c0_0, .slice A0_1 x0.Data.length c0_1]]) (d := 4) hf34 (by kernel_rfl) (by kernel_rfl) callable58 (tensor_May.calls _ _ x0 A0_0 x0.Shape.length c0_0 rfl A0_1 x0.Data.length c0_1 rfl (hm27.give [1, 2] [.sl (Kd.int .i64) A0_0 c0_0 x0.Shape, .sl Kd.float A0_1 c0_1 x0.Data] rfl rfl) r30 hr30) ?_)
      rintro _ w35 a36 ⟨rfl, hk38⟩ hf37
      have hm39 := hm27.still hk38.cum.none
      rw [c31] at hf37
      refine go 7 [.slice A0_0 x0.Shape.length c0_0, .bool true] [2] [(2, .bool true)] [.cell ⟨b21, 0, none⟩ (.slice A0_0 x0.Shape.length c0_0), .is ((((x0.Shape.length : Int) : Int) == 2) = true)] hf37 (by kernel_rfl) ⟨(hm39.cell 0 rfl rfl), (eqT c32), trivial⟩ fun a40 hf41 => ?_
      refine endL rfl ?_
      have hm42 := hm39.sel [] _ rfl (by kernel_rfl)
      refine thenN ?_
      refine wp_ret ?_
      have hm43 : Mem [] M w0 [] w35 := hm42.sel [] _ rfl (by kernel_rfl)
      obtain rfl := Option.some.inj H0
      refine ret [] [.bool true] [] hf41 (by kernel_rfl) trivial ?_
      exact ⟨_, rfl, rfl, hm43⟩
    · refine inReg ?_
      refine go 1 [.agg #[.slice A0_0 x0.Shape.length c0_0, .slice A0_1 x0.Data.length c0_1]] [1, 3] [(1, .pointer (some ⟨b21, 0, none⟩)), (3, .agg #[.slice A0_0 x0.Shape.length c0_0, .slice A0_1 x0.Data.length c0_1])] [.cell ⟨b21, 0, none⟩ (.slice A0_0 x0.Shape.length c0_0), .cell ⟨b21, 1, none⟩ (.slice A0_1 x0.Data.length c0_1)] hf29 (by kernel_rfl) ⟨(hm27.cell 0 rfl rfl), (hm27.cell 0 rfl rfl), trivial⟩ fun a45 hf46 => ?_
      refine listOf hf46 rfl (by kernel_rfl) (aCall (fid := 58) (args := [.agg #[.slice A0_0 x0.Shape.length c0_0, .slice A0_1 x0.Data.length c0_1]]) (d := 4) hf46 (by kernel_rfl) (by kernel_rfl) callable58 (tensor_May.calls _ _ x0 A0_0 x0.Shape.length c0_0 rfl A0_1 x0.Data.length c0_1 rfl (hm27.give [1, 2] [.sl (Kd.int .i64) A0_0 c0_0 x0.Shape, .sl Kd.float A0_1 c0_1 x0.Data] rfl rfl) r30 hr30) ?_)
      rintro _ w47 a48 ⟨rfl, hk50⟩ hf49
      have hm51 := hm27.still hk50.cum.none
      rw [c31] at hf49
      refine go 7 [.slice A0_0 x0.Shape.length c0_0, .bool false] [2] [(2, .bool false)] [.cell ⟨b21, 0, none⟩ (.slice A0_0 x0.Shape.length c0_0), .is ((((x0.Shape.length : Int) : Int) == 2) = false)] hf49 (by kernel_rfl) ⟨(hm51.cell 0 rfl rfl), (eqF c32), trivial⟩ fun a52 hf53 => ?_
      refine endL rfl ?_
      have hm54 := hm51.sel [] _ rfl (by kernel_rfl)
      refine thenN ?_
      refine wp_ret ?_
      have hm55 : Mem [] M w0 [] w47 := hm54.sel [] _ rfl (by kernel_rfl)
      obtain rfl := Option.some.inj H0
      refine ret [] [.bool false] [] hf53 (by kernel_rfl) trivial ?_
      exact ⟨_, rfl, rfl, hm55⟩
  · refine inReg ?_
    refine go 1 [.agg #[.slice A0_0 x0.Shape.length c0_0, .slice A0_1 x0.Data.length c0_1]] [1, 3] [(1, .pointer (some ⟨b21, 0, none⟩)), (3, .agg #[.slice A0_0 x0.Shape.length c0_0, .slice A0_1 x0.Data.length c0_1])] [.cell ⟨b21, 0, none⟩ (.slice A0_0 x0.Shape.length c0_0), .cell ⟨b21, 1, none⟩ (.slice A0_1 x0.Data.length c0_1)] hf29 (by kernel_rfl) ⟨(hm27.cell 0 rfl rfl), (hm27.cell 0 rfl rfl), trivial⟩ fun a57 hf58 => ?_
    refine listOf hf58 rfl (by kernel_rfl) (aCall (fid := 58) (args := [.agg #[.slice A0_0 x0.Shape.length c0_0, .slice A0_1 x0.Data.length c0_1]]) (d := 4) hf58 (by kernel_rfl) (by kernel_rfl) callable58 (tensor_May.calls _ _ x0 A0_0 x0.Shape.length c0_0 rfl A0_1 x0.Data.length c0_1 rfl (hm27.give [1, 2] [.sl (Kd.int .i64) A0_0 c0_0 x0.Shape, .sl Kd.float A0_1 c0_1 x0.Data] rfl rfl) r30 hr30) ?_)
    rintro _ w59 a60 ⟨rfl, hk62⟩ hf61
    have hm63 := hm27.still hk62.cum.none
    rw [c31] at hf61
    refine go 7 [] [2] [(2, .bool false)] [] hf61 (by kernel_rfl) trivial fun a65 hf66 => ?_
    refine endL rfl ?_
    have hm67 := hm63.sel [] _ rfl (by kernel_rfl)
    refine thenN ?_
    refine wp_ret ?_
    have hm68 : Mem [] M w0 [] w59 := hm67.sel [] _ rfl (by kernel_rfl)
    obtain rfl := Option.some.inj H0
    refine ret [] [.bool false] [] hf66 (by kernel_rfl) trivial ?_
    exact ⟨_, rfl, rfl, hm68⟩

/-! ### slices.Clone[[]int,int] -/
noncomputable def slices_Clone_int.f (x0 : (List Int)) : Option (List Int) :=
  if 0 + x0.length ≤ 549755813888 then (some (([] : List Int) ++ x0))
  else none
set_option maxRecDepth 100000 in
set_option maxHeartbeats 4000000 in
theorem slices_Clone_int.calls (M : List (Option Nat)) (w0 : World) (x0 : (List Int)) (A0 : Option Addr) (n0 c0 : Nat) (e0 : n0 = x0.length) (hm0 : Mem [] M w0 [.sl (Kd.int .i64) A0 c0 x0] w0) (r : (List Int)) (H0 : slices_Clone_int.f x0 = some r) :
    Calls Try.prog 64 [.slice A0 n0 c0].toArray w0 (fun x w' => ∃ v, x = .returned v ∧ ∃ Ar0 cr0, v = .slice Ar0 r.length cr0 ∧ Mem [] M w0 [.ow (Kd.int .i64) 3 Ar0 cr0 r] w') := by
  subst e0
  unfold slices_Clone_int.f at H0
  refine enter (n := 8) Try.func64 rfl rfl (by kernel_rfl) fun a0 (hf0 : Fr 8 a0 [(0, .slice A0 x0.length c0)]) => ?_
  refine wp_seq ?_
  refine reg [] [0] [(0, .slice A0 x0.length c0)] [] hf0 (by kernel_rfl) trivial fun a21 hf22 => ?_
  refine thenN ?_
  refine wp_seq ?_
  refine wp_seq ?_
  rcases A0 with _ | p23
  · obtain rfl := Sl.none (hm0.slAt 0 rfl)
    refine reg [] [0, 4] [(0, .slice none (([] : (List Int)).length) c0), (4, .bool true)] [] hf22 (by kernel_rfl) trivial fun a24 hf25 => ?_
    refine thenN ?_
    refine condT hf25 (by kernel_rfl) ?_
    refine wp_seq ?_
    refine reg [] [2] [(2, .slice none 0 0)] [] hf25 (by kernel_rfl) trivial fun a26 hf27 => ?_
    have hm28 := hm0.sel [] _ rfl (by kernel_rfl)
    refine thenN ?_
    refine wp_ret ?_
    refine thenR ?_
    have hm29 : Mem [] M w0 [.ow (Kd.int .i64) 3 none 0 ([] : (List Int))] w0 := hm28.nilOw (Kd.int .i64) 3
    have hm30 : Mem [] M w0 [.ow (Kd.int .i64) 3 none 0 ([] : (List Int))] w0 := hm29.sel [0] _ rfl (by kernel_rfl)
    replace H0 : some ([] : (List Int)) = some r := by rw [← H0]; simp
    obtain rfl := Option.some.inj H0
    refine ret [] [.slice none 0 0] [] hf27 (by kernel_rfl) trivial ?_
    exact ⟨_, rfl, none, 0, rfl, hm30⟩
  · refine reg [] [0, 4] [(0, .slice (some p23) x0.length c0), (4, .bool false)] [] hf22 (by kernel_rfl) trivial fun a32 hf33 => ?_
    refine thenN ?_
    refine condF hf33 (by kernel_rfl) ?_
    refine wp_skip ?_
    refine thenN ?_
    refine wp_seq ?_
    obtain ⟨g34, H0⟩ := if_guard H0
    refine inReg ?_
    refine listOf hf33 rfl (by kernel_rfl) (aLit (cs := []) (E := 3) (len := 0) (d := 5) hf33 (by kernel_rfl) (by kernel_rfl) ?_)
    intro b35 w36 a37 hbb35 hx39 hg40 hf38
    have hm41 : Mem [] M w0 [.ow (Kd.int .i64) 3 (some ⟨b35, 0, none⟩) 0 ([] : List Int), .sl (Kd.int .i64) (some p23) c0 x0] w36 := Mem.litOwn (kd := (Kd.int .i64)) (xs := ([] : List Int)) hm0 hbb35 hx39 hg40 (Els.nil) (by simp [maxLen])
    refine go 1 [] [5, 6] [(5, .slice (some ⟨b35, 0, none⟩) 0 0), (6, .slice (some p23) x0.length c0)] [] hf38 (by kernel_rfl) trivial fun a42 hf43 => ?_
    have e52 : 0 = ([] : List Int).length := rfl
    have e53 : x0.length = x0.length := rfl
    refine listOf hf43 rfl (by kernel_rfl) (aApp (kd := (Kd.int .i64)) (base := 0) (E := 3) (A := (some ⟨b35, 0, none⟩)) (B := (some p23)) (c := 0) (c2 := c0) (xs := ([] : List Int)) (ys := x0) (k := 0) (m := x0.length) (sz := 1) (d := 7) hf43 (by kernel_rfl) e52 e53 (by kernel_rfl) rfl (by kernel_rfl) (hm41.at 0 rfl) (hm41.at2 0 1 rfl rfl).2 (hm41.cpAt 1 rfl) (Nat.zero_le _) (by have := g34; omega) ?_)
    intro A44 c45 w46 a47 ho49 hg50 hr51 hf48
    have hm54 : Mem [] M w0 [.ow (Kd.int .i64) 3 A44 c45 (([] : List Int) ++ x0), .sl (Kd.int .i64) (some p23) c0 x0] w46 := hm41.setOwn 0 _ rfl rfl ho49 hg50 hr51
    refine go 1 [] [2] [(2, .slice A44 ((([] : List Int) ++ x0).length) c45)] [] hf48 (by kernel_rfl) trivial fun a55 hf56 => ?_
    refine endL rfl ?_
    have hm57 := hm54.sel [0] _ rfl (by kernel_rfl)
    refine thenN ?_
    refine wp_ret ?_
    have hm58 : Mem [] M w0 [.ow (Kd.int .i64) 3 A44 c45 (([] : List Int) ++ x0)] w46 := hm57.sel [0] _ rfl (by kernel_rfl)
    obtain rfl := Option.some.inj H0
    refine ret [] [.slice A44 ((([] : List Int) ++ x0).length) c45] [] hf56 (by kernel_rfl) trivial ?_
    exact ⟨_, rfl, A44, c45, rfl, hm58⟩

/-! ### math/bits.Mul64 -/
noncomputable def bits_Mul64.f (x0 : Int) (x1 : Int) : Option (Int × Int) :=
  some ((IntKind.wrap .u64 ((IntKind.wrap .u64 ((IntKind.wrap .u64 ((Int.fdiv x0 (2 ^ 32)) * (Int.fdiv x1 (2 ^ 32)))) + (Int.fdiv (IntKind.wrap .u64 ((IntKind.wrap .u64 ((Int.fdiv x0 (2 ^ 32)) * (bits .and .u64 x1 4294967295))) + (Int.fdiv (IntKind.wrap .u64 ((bits .and .u64 x0 4294967295) * (bits .and .u64 x1 4294967295))) (2 ^ 32)))) (2 ^ 32)))) + (Int.fdiv (IntKind.wrap .u64 ((bits .and .u64 (IntKind.wrap .u64 ((IntKind.wrap .u64 ((Int.fdiv x0 (2 ^ 32)) * (bits .and .u64 x1 4294967295))) + (Int.fdiv (IntKind.wrap .u64 ((bits .and .u64 x0 4294967295) * (bits .and .u64 x1 4294967295))) (2 ^ 32)))) 4294967295) + (IntKind.wrap .u64 ((bits .and .u64 x0 4294967295) * (Int.fdiv x1 (2 ^ 32)))))) (2 ^ 32)))), (IntKind.wrap .u64 (x0 * x1)))
set_option maxRecDepth 100000 in
set_option maxHeartbeats 4000000 in
theorem bits_Mul64.calls (M : List (Option Nat)) (w0 : World) (x0 : Int) (x1 : Int) (hm0 : Mem [] M w0 [] w0) (r : (Int × Int)) (H0 : bits_Mul64.f x0 x1 = some r) :
    Calls Try.prog 73 [.int .u64 x0, .int .u64 x1].toArray w0 (fun x w' => ∃ v, x = .returned v ∧ v = .tuple #[.int .u64 r.1, .int .u64 r.2] ∧ Mem [] M w0 [] w') := by
  unfold bits_Mul64.f at H0
  refine enter (n := 51) Try.func73 rfl rfl (by kernel_rfl) fun a0 (hf0 : Fr 51 a0 [(0, .int .u64 x0), (1, .int .u64 x1)]) => ?_
  refine wp_seq ?_
  refine reg [] [0, 1] [(0, .int .u64 x0), (1, .int .u64 x1)] [] hf0 (by kernel_rfl) trivial fun a21 hf22 => ?_
  refine thenN ?_
  refine wp_seq ?_
  refine reg [] [0, 1, 6] [(0, .int .u64 x0), (1, .int .u64 x1), (6, .int .u64 (bits .and .u64 x0 4294967295))] [] hf22 (by kernel_rfl) trivial fun a23 hf24 => ?_
  refine thenN ?_
  refine wp_seq ?_
  refine reg [] [0, 1, 6, 7] [(0, .int .u64 x0), (1, .int .u64 x1), (6, .int .u64 (bits .and .u64 x0 4294967295)), (7, .int .u64 (Int.fdiv x0 (2 ^ 32)))] [] hf24 (by kernel_rfl) trivial fun a25 hf26 => ?_
  refine thenN ?_
  refine wp_seq ?_
  refine reg [] [0, 1, 6, 7, 8] [(0, .int .u64 x0), (1, .int .u64 x1), (6, .int .u64 (bits .and .u64 x0 4294967295)), (7, .int .u64 (Int.fdiv x0 (2 ^ 32))), (8, .int .u64 (bits .and .u64 x1 4294967295))] [] hf26 (by kernel_rfl) trivial fun a27 hf28 => ?_
  refine thenN ?_
  refine wp_seq ?_
  refine reg [] [0, 1, 6, 7, 8, 9] [(0, .int .u64 x0), (1, .int .u64 x1), (6, .int .u64 (bits .and .u64 x0 4294967295)), (7, .int .u64 (Int.fdiv x0 (2 ^ 32))), (8, .int .u64 (bits .and .u64 x1 4294967295)), (9, .int .u64 (Int.fdiv x1 (2 ^ 32)))] [] hf28 (by kernel_rfl) trivial fun a29 hf30 => ?_
  refine thenN ?_
  refine wp_seq ?_
  refine reg [] [0, 1, 6, 7, 8, 9, 10] [(0, .int .u64 x0), (1, .int .u64 x1), (6, .int .u64 (bits .and .u64 x0 4294967295)), (7, .int .u64 (Int.fdiv x0 (2 ^ 32))), (8, .int .u64 (bits .and .u64 x1 4294967295)), (9, .int .u64 (Int.fdiv x1 (2 ^ 32))), (10, .int .u64 (IntKind.wrap .u64 ((bits .and .u64 x0 4294967295) * (bits .and .u64 x1 4294967295))))] [] hf30 (by kernel_rfl) trivial fun a31 hf32 => ?_
  refine thenN ?_
  refine wp_seq ?_
  refine reg [] [0, 1, 6, 7, 9, 11] [(0, .int .u64 x0), (1, .int .u64 x1), (6, .int .u64 (bits .and .u64 x0 4294967295)), (7, .int .u64 (Int.fdiv x0 (2 ^ 32))), (9, .int .u64 (Int.fdiv x1 (2 ^ 32))), (11, .int .u64 (IntKind.wrap .u64 ((IntKind.wrap .u64 ((Int.fdiv x0 (2 ^ 32)) * (bits .and .u64 x1 4294967295))) + (Int.fdiv (IntKind.wrap .u64 ((bits .and .u64 x0 4294967295) * (bits .and .u64 x1 4294967295))) (2 ^ 32)))))] [] hf32 (by kernel_rfl) trivial fun a33 hf34 => ?_
  refine thenN ?_
  refine wp_seq ?_
  refine reg [] [0, 1, 6, 7, 9, 11, 12] [(0, .int .u64 x0), (1, .int .u64 x1), (6, .int .u64 (bits .and .u64 x0 4294967295)), (7, .int .u64 (Int.fdiv x0 (2 ^ 32))), (9, .int .u64 (Int.fdiv x1 (2 ^ 32))), (11, .int .u64 (IntKind.wrap .u64 ((IntKind.wrap .u64 ((Int.fdiv x0 (2 ^ 32)) * (bits .and .u64 x1 4294967295))) + (Int.fdiv (IntKind.wrap .u64 ((bits .and .u64 x0 4294967295) * (bits .and .u64 x1 4294967295))) (2 ^ 32))))), (12, .int .u64 (bits .and .u64 (IntKind.wrap .u64 ((IntKind.wrap .u64 ((Int.fdiv x0 (2 ^ 32)) * (bits .and .u64 x1 4294967295))) + (Int.fdiv (IntKind.wrap .u64 ((bits .and .u64 x0 4294967295) * (bits .and .u64 x1 4294967295))) (2 ^ 32)))) 4294967295))] [] hf34 (by kernel_rfl) trivial fun a35 hf36 => ?_
  refine thenN ?_
  refine wp_seq ?_
  refine reg [] [0, 1, 6, 7, 9, 12, 13] [(0, .int .u64 x0), (1, .int .u64 x1), (6, .int .u64 (bits .and .u64 x0 4294967295)), (7, .int .u64 (Int.fdiv x0 (2 ^ 32))), (9, .int .u64 (Int.fdiv x1 (2 ^ 32))), (12, .int .u64 (bits .and .u64 (IntKind.wrap .u64 ((IntKind.wrap .u64 ((Int.fdiv x0 (2 ^ 32)) * (bits .and .u64 x1 4294967295))) + (Int.fdiv (IntKind.wrap .u64 ((bits .and .u64 x0 4294967295) * (bits .and .u64 x1 4294967295))) (2 ^ 32)))) 4294967295)), (13, .int .u64 (Int.fdiv (IntKind.wrap .u64 ((IntKind.wrap .u64 ((Int.fdiv x0 (2 ^ 32)) * (bits .and .u64 x1 4294967295))) + (Int.fdiv (IntKind.wrap .u64 ((bits .and .u64 x0 4294967295) * (bits .and .u64 x1 4294967295))) (2 ^ 32)))) (2 ^ 32)))] [] hf36 (by kernel_rfl) trivial fun a37 hf38 => ?_
  refine thenN ?_
  refine wp_seq ?_
  refine reg [] [0, 1, 7, 9, 12, 13] [(0, .int .u64 x0), (1, .int .u64 x1), (7, .int .u64 (Int.fdiv x0 (2 ^ 32))), (9, .int .u64 (Int.fdiv x1 (2 ^ 32))), (12, .int .u64 (IntKind.wrap .u64 ((bits .and .u64 (IntKind.wrap .u64 ((IntKind.wrap .u64 ((Int.fdiv x0 (2 ^ 32)) * (bits .and .u64 x1 4294967295))) + (Int.fdiv (IntKind.wrap .u64 ((bits .and .u64 x0 4294967295) * (bits .and .u64 x1 4294967295))) (2 ^ 32)))) 4294967295) + (IntKind.wrap .u64 ((bits .and .u64 x0 4294967295) * (Int.fdiv x1 (2 ^ 32))))))), (13, .int .u64 (Int.fdiv (IntKind.wrap .u64 ((IntKind.wrap .u64 ((Int.fdiv x0 (2 ^ 32)) * (bits .and .u64 x1 4294967295))) + (Int.fdiv (IntKind.wrap .u64 ((bits .and .u64 x0 4294967295) * (bits .and .u64 x1 4294967295))) (2 ^ 32)))) (2 ^ 32)))] [] hf38 (by kernel_rfl) trivial fun a39 hf40 => ?_
  refine thenN ?_
  refine wp_seq ?_
  refine reg [] [0, 1, 4] [(0, .int .u64 x0), (1, .int .u64 x1), (4, .int .u64 (IntKind.wrap .u64 ((IntKind.wrap .u64 ((IntKind.wrap .u64 ((Int.fdiv x0 (2 ^ 32)) * (Int.fdiv x1 (2 ^ 32)))) + (Int.fdiv (IntKind.wrap .u64 ((IntKind.wrap .u64 ((Int.fdiv x0 (2 ^ 32)) * (bits .and .u64 x1 4294967295))) + (Int.fdiv (IntKind.wrap .u64 ((bits .and .u64 x0 4294967295) * (bits .and .u64 x1 4294967295))) (2 ^ 32)))) (2 ^ 32)))) + (Int.fdiv (IntKind.wrap .u64 ((bits .and .u64 (IntKind.wrap .u64 ((IntKind.wrap .u64 ((Int.fdiv x0 (2 ^ 32)) * (bits .and .u64 x1 4294967295))) + (Int.fdiv (IntKind.wrap .u64 ((bits .and .u64 x0 4294967295) * (bits .and .u64 x1 4294967295))) (2 ^ 32)))) 4294967295) + (IntKind.wrap .u64 ((bits .and .u64 x0 4294967295) * (Int.fdiv x1 (2 ^ 32)))))) (2 ^ 32)))))] [] hf40 (by kernel_rfl) trivial fun a41 hf42 => ?_
  refine thenN ?_
  refine wp_seq ?_
  refine reg [] [4, 5] [(4, .int .u64 (IntKind.wrap .u64 ((IntKind.wrap .u64 ((IntKind.wrap .u64 ((Int.fdiv x0 (2 ^ 32)) * (Int.fdiv x1 (2 ^ 32)))) + (Int.fdiv (IntKind.wrap .u64 ((IntKind.wrap .u64 ((Int.fdiv x0 (2 ^ 32)) * (bits .and .u64 x1 4294967295))) + (Int.fdiv (IntKind.wrap .u64 ((bits .and .u64 x0 4294967295) * (bits .and .u64 x1 4294967295))) (2 ^ 32)))) (2 ^ 32)))) + (Int.fdiv (IntKind.wrap .u64 ((bits .and .u64 (IntKind.wrap .u64 ((IntKind.wrap .u64 ((Int.fdiv x0 (2 ^ 32)) * (bits .and .u64 x1 4294967295))) + (Int.fdiv (IntKind.wrap .u64 ((bits .and .u64 x0 4294967295) * (bits .and .u64 x1 4294967295))) (2 ^ 32)))) 4294967295) + (IntKind.wrap .u64 ((bits .and .u64 x0 4294967295) * (Int.fdiv x1 (2 ^ 32)))))) (2 ^ 32))))), (5, .int .u64 (IntKind.wrap .u64 (x0 * x1)))] [] hf42 (by kernel_rfl) trivial fun a43 hf44 => ?_
  refine thenN ?_
  refine wp_ret ?_
  have hm45 : Mem [] M w0 [] w0 := hm0.sel [] _ rfl (by kernel_rfl)
  obtain rfl := Option.some.inj H0
  refine ret [] [.int .u64 (IntKind.wrap .u64 ((IntKind.wrap .u64 ((IntKind.wrap .u64 ((Int.fdiv x0 (2 ^ 32)) * (Int.fdiv x1 (2 ^ 32)))) + (Int.fdiv (IntKind.wrap .u64 ((IntKind.wrap .u64 ((Int.fdiv x0 (2 ^ 32)) * (bits .and .u64 x1 4294967295))) + (Int.fdiv (IntKind.wrap .u64 ((bits .and .u64 x0 4294967295) * (bits .and .u64 x1 4294967295))) (2 ^ 32)))) (2 ^ 32)))) + (Int.fdiv (IntKind.wrap .u64 ((bits .and .u64 (IntKind.wrap .u64 ((IntKind.wrap .u64 ((Int.fdiv x0 (2 ^ 32)) * (bits .and .u64 x1 4294967295))) + (Int.fdiv (IntKind.wrap .u64 ((bits .and .u64 x0 4294967295) * (bits .and .u64 x1 4294967295))) (2 ^ 32)))) 4294967295) + (IntKind.wrap .u64 ((bits .and .u64 x0 4294967295) * (Int.fdiv x1 (2 ^ 32)))))) (2 ^ 32)))), .int .u64 (IntKind.wrap .u64 (x0 * x1))] [] hf44 (by kernel_rfl) trivial ?_
  exact ⟨_, rfl, rfl, hm45⟩

/-! ### math/bits.Mul -/
noncomputable def bits_Mul.f (x0 : Int) (x1 : Int) : Option (Int × Int) :=
  (bits_Mul64.f x0 x1).bind fun r23 =>
  some (r23.1, r23.2)
set_option maxRecDepth 100000 in
set_option maxHeartbeats 4000000 in
theorem bits_Mul.calls (M : List (Option Nat)) (w0 : World) (x0 : Int) (x1 : Int) (hm0 : Mem [] M w0 [] w0) (r : (Int × Int)) (H0 : bits_Mul.f x0 x1 = some r) :
    Calls Try.prog 70 [.int .u64 x0, .int .u64 x1].toArray w0 (fun x w' => ∃ v, x = .returned v ∧ v = .tuple #[.int .u64 r.1, .int .u64 r.2] ∧ Mem [] M w0 [] w') := by
  unfold bits_Mul.f at H0
  refine enter (n := 30) Try.func70 rfl rfl (by kernel_rfl) fun a0 (hf0 : Fr 30 a0 [(0, .int .u64 x0), (1, .int .u64 x1)]) => ?_
  refine wp_seq ?_
  refine reg [] [0, 1] [(0, .int .u64 x0), (1, .int .u64 x1)] [] hf0 (by kernel_rfl) trivial fun a21 hf22 => ?_
  refine thenN ?_
  refine wp_seq ?_
  refine condF hf22 (by kernel_rfl) ?_
  refine wp_skip ?_
  refine thenN ?_
  refine wp_seq ?_
  obtain ⟨r23, hr23, H0⟩ := ob_split H0
  refine inReg ?_
  refine go 2 [] [23, 24] [(23, .int .u64 x0), (24, .int .u64 x1)] [] hf22 (by kernel_rfl) trivial fun a24 hf25 => ?_
  refine listOf hf25 rfl (by kernel_rfl) (aCall (fid := 73) (args := [.int .u64 x0, .int .u64 x1]) (d := 25) hf25 (by kernel_rfl) (by kernel_rfl) callable73 (bits_Mul64.calls _ _ x0 x1 (hm0.give [] [] rfl rfl) r23 hr23) ?_)
  rintro _ w26 a27 ⟨rfl, hk29⟩ hf28
  have hm30 := hm0.still hk29.cum.none
  refine go 5 [] [8, 9] [(8, .int .u64 r23.1), (9, .int .u64 r23.2)] [] hf28 (by kernel_rfl) trivial fun a31 hf32 => ?_
  refine endL rfl ?_
  refine thenN ?_
  refine wp_seq ?_
  refine reg [] [4, 5] [(4, .int .u64 r23.1), (5, .int .u64 r23.2)] [] hf32 (by kernel_rfl) trivial fun a33 hf34 => ?_
  refine thenN ?_
  refine wp_ret ?_
  have hm35 : Mem [] M w0 [] w26 := hm30.sel [] _ rfl (by kernel_rfl)
  obtain rfl := Option.some.inj H0
  refine ret [] [.int .u64 r23.1, .int .u64 r23.2] [] hf34 (by kernel_rfl) trivial ?_
  exact ⟨_, rfl, rfl, hm35⟩

/-! ### slices.Repeat[[]float64,float64] -/
noncomputable def slices_Repeat_float64.l0  (s75 : (Int × (List Nat))) : Step (Int × (List Nat)) (Int × (List Nat)) :=
  if s75.1 < (s75.2.length : Int) then (if 0 ≤ s75.1 ∧ s75.1 ≤ (s75.2.length : Int) then (.next ((w64 (s75.1 + ((List.take (min ((s75.1).toNat - 0) (s75.2.length - (s75.1).toNat)) s75.2).length : Int))), (cpy s75.2 ((s75.1).toNat) (List.take (min ((s75.1).toNat - 0) (s75.2.length - (s75.1).toNat)) s75.2))))
  else .bad)
  else (.done (s75.1, s75.2))
noncomputable def slices_Repeat_float64.f (x0 : (List Nat)) (x1 : Int) : Option (List Nat) :=
  if x1 < 0 then none
  else ((bits_Mul.f (IntKind.wrap .u64 ((x0.length : Int))) (IntKind.wrap .u64 (x1))).bind fun r28 =>
  if 0 < r28.1 then none
  else (if 9223372036854775807 < r28.2 then none
  else (if 0 ≤ (w64 (r28.2)) ∧ (w64 (r28.2)) ≤ 1099511627776 then ((loop (slices_Repeat_float64.l0) (((List.take ((List.replicate ((w64 (r28.2))).toNat (0 : Nat)).length) x0).length : Int), (cpy (List.replicate ((w64 (r28.2))).toNat (0 : Nat)) 0 (List.take ((List.replicate ((w64 (r28.2))).toNat (0 : Nat)).length) x0)))).bind fun r76 =>
  some r76.2)
  else none)))
set_option maxRecDepth 100000 in
set_option maxHeartbeats 4000000 in
theorem slices_Repeat_float64.calls (M : List (Option Nat)) (w0 : World) (x0 : (List Nat)) (A0 : Option Addr) (n0 c0 : Nat) (e0 : n0 = x0.length) (x1 : Int) (hm0 : Mem [] M w0 [.sl Kd.float A0 c0 x0] w0) (r : (List Nat)) (H0 : slices_Repeat_float64.f x0 x1 = some r) :
    Calls Try.prog 65 [.slice A0 n0 c0, .int .i64 x1].toArray w0 (fun x w' => ∃ v, x = .returned v ∧ ∃ Ar0 cr0, v = .slice Ar0 r.length cr0 ∧ Mem [] M w0 [.ow Kd.float 47 Ar0 cr0 r] w') := by
  subst e0
  unfold slices_Repeat_float64.f at H0
  refine enter (n := 48) Try.func65 rfl rfl (by kernel_rfl) fun a0 (hf0 : Fr 48 a0 [(0, .slice A0 x0.length c0), (1, .int .i64 x1)]) => ?_
  refine wp_seq ?_
  refine reg [] [0, 1] [(0, .slice A0 x0.length c0), (1, .int .i64 x1)] [] hf0 (by kernel_rfl) trivial fun a21 hf22 => ?_
  refine thenN ?_
  refine wp_seq ?_
  refine wp_seq ?_
  rcases if_split H0 with ⟨c23, H0⟩ | ⟨c23, H0⟩
  · refine reg [.bool true] [0, 1, 10] [(0, .slice A0 x0.length c0), (1, .int .i64 x1), (10, .bool true)] [.is (decide (x1 < 0) = true)] hf22 (by kernel_rfl) ⟨(decide_eq_true c23), trivial⟩ fun a24 hf25 => ?_
    refine thenN ?_
    refine condT hf25 (by kernel_rfl) ?_
    exact absurd H0 (by simp [Step.go])
  · refine reg [.bool false] [0, 1, 10] [(0, .slice A0 x0.length c0), (1, .int .i64 x1), (10, .bool false)] [.is (decide (x1 < 0) = false)] hf22 (by kernel_rfl) ⟨(decide_eq_false c23), trivial⟩ fun a26 hf27 => ?_
    refine thenN ?_
    refine condF hf27 (by kernel_rfl) ?_
    refine wp_skip ?_
    refine thenN ?_
    refine wp_seq ?_
    obtain ⟨r28, hr28, H0⟩ := ob_split H0
    refine inReg ?_
    refine go 5 [] [0, 15, 17] [(0, .slice A0 x0.length c0), (15, .int .u64 (IntKind.wrap .u64 ((x0.length : Int)))), (17, .int .u64 (IntKind.wrap .u64 (x1)))] [] hf27 (by kernel_rfl) trivial fun a29 hf30 => ?_
    refine listOf hf30 rfl (by kernel_rfl) (aCall (fid := 70) (args := [.int .u64 (IntKind.wrap .u64 ((x0.length : Int))), .int .u64 (IntKind.wrap .u64 (x1))]) (d := 18) hf30 (by kernel_rfl) (by kernel_rfl) callable70 (bits_Mul.calls _ _ (IntKind.wrap .u64 ((x0.length : Int))) (IntKind.wrap .u64 (x1)) (hm0.give [] [] rfl rfl) r28 hr28) ?_)
    rintro _ w31 a32 ⟨rfl, hk34⟩ hf33
    have hm35 := hm0.still hk34.cum.none
    refine go 5 [] [0, 5, 6] [(0, .slice A0 x0.length c0), (5, .int .u64 r28.1), (6, .int .u64 r28.2)] [] hf33 (by kernel_rfl) trivial fun a36 hf37 => ?_
    refine endL rfl ?_
    refine thenN ?_
    refine wp_seq ?_
    refine wp_seq ?_
    rcases if_split H0 with ⟨c38, H0⟩ | ⟨c38, H0⟩
    · refine reg [.bool true] [0, 6, 26] [(0, .slice A0 x0.length c0), (6, .int .u64 r28.2), (26, .bool true)] [.is (decide (0 < r28.1) = true)] hf37 (by kernel_rfl) ⟨(decide_eq_true c38), trivial⟩ fun a39 hf40 => ?_
      refine thenN ?_
      refine condT hf40 (by kernel_rfl) ?_
      exact absurd H0 (by simp [Step.go])
    · rcases if_split H0 with ⟨c41, H0⟩ | ⟨c41, H0⟩
      · refine reg [.bool false, .bool true] [0, 6, 26] [(0, .slice A0 x0.length c0), (6, .int .u64 r28.2), (26, .bool true)] [.is (decide (0 < r28.1) = false), .is (decide (9223372036854775807 < r28.2) = true)] hf37 (by kernel_rfl) ⟨(decide_eq_false c38), (decide_eq_true c41), trivial⟩ fun a42 hf43 => ?_
        refine thenN ?_
        refine condT hf43 (by kernel_rfl) ?_
        exact absurd H0 (by simp [Step.go])
      · refine reg [.bool false, .bool false] [0, 6, 26] [(0, .slice A0 x0.length c0), (6, .int .u64 r28.2), (26, .bool false)] [.is (decide (0 < r28.1) = false), .is (decide (9223372036854775807 < r28.2) = false)] hf37 (by kernel_rfl) ⟨(decide_eq_false c38), (decide_eq_false c41), trivial⟩ fun a44 hf45 => ?_
        refine thenN ?_
        refine condF hf45 (by kernel_rfl) ?_
        refine wp_skip ?_
        refine thenN ?_
        refine wp_seq ?_
        obtain ⟨g46, H0⟩ := if_guard H0
        refine inReg ?_
        refine go 2 [] [0, 29] [(0, .slice A0 x0.length c0), (29, .int .i64 (w64 (r28.2)))] [] hf45 (by kernel_rfl) trivial fun a47 hf48 => ?_
        refine listOf hf48 rfl (by kernel_rfl) (aMake (kd := Kd.float) (x := 0) (E := 47) (L := (w64 (r28.2))) (z := [.float .f64 0]) (sz := 1) (d := 30) hf48 (by kernel_rfl) (by kernel_rfl) rfl (fun _ _ => ⟨0, rfl, FR.lit (by kernel_rfl) (by kernel_rfl)⟩) g46.1 g46.2 ?_)
        intro A49 c50 w51 a52 ho54 hb56 hg55 hf53
        have hm57 : Mem [] M w0 [.ow Kd.float 47 A49 c50 (List.replicate ((w64 (r28.2))).toNat (0 : Nat)), .sl Kd.float A0 c0 x0] w51 := hm35.own (ho54 _) hg55
        refine go 1 [] [0, 7] [(0, .slice A0 x0.length c0), (7, .slice A49 ((List.replicate ((w64 (r28.2))).toNat (0 : Nat)).length) c50)] [] hf53 (by kernel_rfl) trivial fun a58 hf59 => ?_
        refine endL rfl ?_
        refine thenN ?_
        refine wp_seq ?_
        refine inReg ?_
        refine go 2 [] [7, 31, 32] [(7, .slice A49 ((List.replicate ((w64 (r28.2))).toNat (0 : Nat)).length) c50), (31, .slice A49 ((List.replicate ((w64 (r28.2))).toNat (0 : Nat)).length) c50), (32, .slice A0 x0.length c0)] [] hf59 (by kernel_rfl) trivial fun a60 hf61 => ?_
        refine listOf hf61 rfl (by kernel_rfl) (aCopy (kd := Kd.float) (base := 0) (E := 47) (A := A49) (B := A0) (D := A49) (c := c50) (lo := 0) (dn := ((List.replicate ((w64 (r28.2))).toNat (0 : Nat)).length)) (dc := c50) (sn := x0.length) (sc := c0) (xs := (List.replicate ((w64 (r28.2))).toNat (0 : Nat))) (ys := (List.take ((List.replicate ((w64 (r28.2))).toNat (0 : Nat)).length) x0)) (d := 33) hf61 (by kernel_rfl) (.inr ⟨rfl, rfl⟩) (by kernel_rfl) rfl (hm57.at 0 rfl) (by rw [Nat.zero_add, show (List.replicate ((w64 (r28.2))).toNat (0 : Nat)).length = (List.replicate ((w64 (r28.2))).toNat (0 : Nat)).length from rfl]; exact Nat.le_refl _) (Src.sl rfl (hm57.at2 0 1 rfl rfl).2 ((List.replicate ((w64 (r28.2))).toNat (0 : Nat)).length)) (by rw [List.length_take, ← (show x0.length = x0.length from rfl)]; show _ = min _ _; omega) ?_)
        intro w62 a63 ho66 hg67 hf65
        have e68 : (cpy (List.replicate ((w64 (r28.2))).toNat (0 : Nat)) 0 (List.take ((List.replicate ((w64 (r28.2))).toNat (0 : Nat)).length) x0)).length = (List.replicate ((w64 (r28.2))).toNat (0 : Nat)).length := cpy_length (by have := Nat.le_refl 0; have := Nat.le_refl 0; simp only [List.length_take]; omega)
        have hf69 : Fr 48 a63 [(7, .slice A49 ((List.replicate ((w64 (r28.2))).toNat (0 : Nat)).length) c50), (31, .slice A49 ((List.replicate ((w64 (r28.2))).toNat (0 : Nat)).length) c50), (32, .slice A0 x0.length c0), (33, .int .i64 ((List.take ((List.replicate ((w64 (r28.2))).toNat (0 : Nat)).length) x0).length : Int))] := hf65.sel (l := [7, 31, 32, 33]) (by kernel_rfl)
        have hf70 : Fr 48 a63 [(7, .slice A49 ((cpy (List.replicate ((w64 (r28.2))).toNat (0 : Nat)) 0 (List.take ((List.replicate ((w64 (r28.2))).toNat (0 : Nat)).length) x0)).length) c50), (31, .slice A49 ((cpy (List.replicate ((w64 (r28.2))).toNat (0 : Nat)) 0 (List.take ((List.replicate ((w64 (r28.2))).toNat (0 : Nat)).length) x0)).length) c50), (32, .slice A0 x0.length c0), (33, .int .i64 ((List.take ((List.replicate ((w64 (r28.2))).toNat (0 : Nat)).length) x0).length : Int))] := by simpa only [e68] using hf69
        have hm71 : Mem [] M w0 [.ow Kd.float 47 A49 c50 (cpy (List.replicate ((w64 (r28.2))).toNat (0 : Nat)) 0 (List.take ((List.replicate ((w64 (r28.2))).toNat (0 : Nat)).length) x0)), .sl Kd.float A0 c0 x0] w62 := hm57.setOwn 0 _ rfl rfl ho66 hg67 (.inl rfl)
        refine go 1 [] [7, 8] [(7, .slice A49 ((cpy (List.replicate ((w64 (r28.2))).toNat (0 : Nat)) 0 (List.take ((List.replicate ((w64 (r28.2))).toNat (0 : Nat)).length) x0)).length) c50), (8, .int .i64 ((List.take ((List.replicate ((w64 (r28.2))).toNat (0 : Nat)).length) x0).length : Int))] [] hf70 (by kernel_rfl) trivial fun a72 hf73 => ?_
        refine endL rfl ?_
        have hm74 := hm71.sel [0] _ rfl (by kernel_rfl)
        refine thenN ?_
        refine wp_seq ?_
        obtain ⟨r76, hr76, H0⟩ := ob_split H0
        refine wpBlock (Mid := fun (a : Act) (w : World) => Fr 48 a [(7, .slice A49 r76.2.length c50), (8, .int .i64 r76.1)] ∧ Mem [] M w0 [.ow Kd.float 47 A49 c50 r76.2] w) ?_ ?_
        · refine wpLoop (slices_Repeat_float64.l0) r76 (fun (s75 : (Int × (List Nat))) (a : Act) (w : World) => Fr 48 a [(7, .slice A49 s75.2.length c50), (8, .int .i64 s75.1)] ∧ Mem [] M w0 [.ow Kd.float 47 A49 c50 s75.2] w) (((List.take ((List.replicate ((w64 (r28.2))).toNat (0 : Nat)).length) x0).length : Int), (cpy (List.replicate ((w64 (r28.2))).toNat (0 : Nat)) 0 (List.take ((List.replicate ((w64 (r28.2))).toNat (0 : Nat)).length) x0))) hr76 ⟨hf73.sel (l := [7, 8]) (by kernel_rfl), hm74.sel [0] _ rfl (by kernel_rfl)⟩ ?_
          rintro g77 s75 a78 w79 H1 ⟨hf80, hm81⟩
          unfold slices_Repeat_float64.l0 at H1
          refine wp_seq ?_
          refine wp_seq ?_
          rcases ifS_split H1 with ⟨c82, H1⟩ | ⟨c82, H1⟩
          · refine reg [.bool true] [7, 8, 37] [(7, .slice A49 s75.2.length c50), (8, .int .i64 s75.1), (37, .bool true)] [.is (decide (s75.1 < (s75.2.length : Int)) = true)] hf80 (by kernel_rfl) ⟨(decide_eq_true c82), trivial⟩ fun a83 hf84 => ?_
            refine thenN ?_
            refine condT hf84 (by kernel_rfl) ?_
            refine wp_skip ?_
            refine thenN ?_
            refine wp_block ?_
            obtain ⟨g85, H1⟩ := ifS_guard H1
            refine midReg (fun (a : Act) (w : World) => Fr 48 a [(7, .slice A49 ((cpy s75.2 ((s75.1).toNat) (List.take (min ((s75.1).toNat - 0) (s75.2.length - (s75.1).toNat)) s75.2)).length) c50), (8, .int .i64 (w64 (s75.1 + ((List.take (min ((s75.1).toNat - 0) (s75.2.length - (s75.1).toNat)) s75.2).length : Int))))] ∧ Mem [] M w0 [.ow Kd.float 47 A49 c50 (cpy s75.2 ((s75.1).toNat) (List.take (min ((s75.1).toNat - 0) (s75.2.length - (s75.1).toNat)) s75.2))] w) ?_ ?_
            · refine anyG [7] (by kernel_rfl) fun w97 hg98 => ?_
              have hm99 := hm81.still hg98
              have e115 : s75.2.length = s75.2.length := rfl
              have e115p : (s75.1).toNat + (s75.2.length - (s75.1).toNat) ≤ s75.2.length := by omega
              have e116 : s75.2.length = s75.2.length := rfl
              have e116p : 0 + ((s75.1).toNat - 0) ≤ s75.2.length := by omega
              refine quiet0 [0, 1, 2, 3, 4, 5, 6] [] [7, 8, 38, 41, 44] #[true, true, true, true, true, true, true, false, false, false] [(7, .slice A49 s75.2.length c50), (8, .int .i64 s75.1), (38, .int .i64 s75.1), (41, .slice (sub A49 c50 ((s75.1).toNat) 1) (s75.2.length - (s75.1).toNat) (c50 - (s75.1).toNat)), (44, .slice (sub A49 c50 0 1) ((s75.1).toNat - 0) (c50 - 0))] [.is (0 ≤ s75.1 ∧ s75.1 ≤ (s75.2.length : Int)), .is (0 ≤ s75.1 ∧ s75.1 ≤ (c50 : Int))] 3 rfl (by kernel_rfl) (fun _ _ _ _ _ h => nomatch h.1) hf84 (by kernel_rfl) ⟨g85, (sub_cap rfl (hm99.cpOw 0 rfl) g85), trivial⟩ fun a117 hf118 => ?_
              refine all1 7 (by kernel_rfl) ?_
              refine opOf hf118 rfl (by kernel_rfl) (aCopy (kd := Kd.float) (base := 0) (E := 47) (A := A49) (B := (sub A49 c50 0 1)) (D := (sub A49 c50 ((s75.1).toNat) 1)) (c := c50) (lo := ((s75.1).toNat)) (dn := (s75.2.length - (s75.1).toNat)) (dc := (c50 - (s75.1).toNat)) (sn := ((s75.1).toNat - 0)) (sc := (c50 - 0)) (xs := s75.2) (ys := (List.take (min ((s75.1).toNat - 0) (s75.2.length - (s75.1).toNat)) s75.2)) (d := 45) hf118 (by kernel_rfl) (.inl rfl) (by kernel_rfl) rfl (hm99.at 0 rfl) e115p ((Src.ow rfl (hm99.at 0 rfl) (min ((s75.1).toNat - 0) (s75.2.length - (s75.1).toNat))).sub0 _ _) (by have := e116p; rw [List.length_take]; show _ = min _ _; omega) ?_)
              intro w119 a120 ho122 hg123 hf121
              refine ⟨.inl (by decide), ?_⟩
              have e124 : (cpy s75.2 ((s75.1).toNat) (List.take (min ((s75.1).toNat - 0) (s75.2.length - (s75.1).toNat)) s75.2)).length = s75.2.length := cpy_length (by have := e115p; have := Nat.le_refl 0; simp only [List.length_take]; omega)
              have hf125 : Fr 48 a120 [(7, .slice A49 s75.2.length c50), (8, .int .i64 s75.1), (38, .int .i64 s75.1), (45, .int .i64 ((List.take (min ((s75.1).toNat - 0) (s75.2.length - (s75.1).toNat)) s75.2).length : Int))] := hf121.sel (l := [7, 8, 38, 45]) (by kernel_rfl)
              have hf126 : Fr 48 a120 [(7, .slice A49 ((cpy s75.2 ((s75.1).toNat) (List.take (min ((s75.1).toNat - 0) (s75.2.length - (s75.1).toNat)) s75.2)).length) c50), (8, .int .i64 s75.1), (38, .int .i64 s75.1), (45, .int .i64 ((List.take (min ((s75.1).toNat - 0) (s75.2.length - (s75.1).toNat)) s75.2).length : Int))] := by simpa only [e124] using hf125
              have hm127 : Mem [] M w0 [.ow Kd.float 47 A49 c50 (cpy s75.2 ((s75.1).toNat) (List.take (min ((s75.1).toNat - 0) (s75.2.length - (s75.1).toNat)) s75.2))] w119 := hm99.setOwn 0 _ rfl rfl ho122 hg123 (.inl rfl)
              refine quiet0 [8, 9] [] [7, 8] #[true, true, true, true, true, true, true, true, true, true] [(7, .slice A49 ((cpy s75.2 ((s75.1).toNat) (List.take (min ((s75.1).toNat - 0) (s75.2.length - (s75.1).toNat)) s75.2)).length) c50), (8, .int .i64 (w64 (s75.1 + ((List.take (min ((s75.1).toNat - 0) (s75.2.length - (s75.1).toNat)) s75.2).length : Int))))] [] 0 rfl (by kernel_rfl) (fun _ _ _ _ _ h => nomatch h.1) hf126 (by kernel_rfl) trivial fun a128 hf129 => ?_
              refine allDone (by kernel_rfl) ⟨rfl, hf129.sel (l := [7, 8]) (by kernel_rfl), hm127.sel [0] _ rfl (by kernel_rfl)⟩
            rintro a130 w131 ⟨hf132, hm133⟩
            refine blkN ?_
            exact ⟨((w64 (s75.1 + ((List.take (min ((s75.1).toNat - 0) (s75.2.length - (s75.1).toNat)) s75.2).length : Int))), (cpy s75.2 ((s75.1).toNat) (List.take (min ((s75.1).toNat - 0) (s75.2.length - (s75.1).toNat)) s75.2))), H1, hf132.sel (l := [7, 8]) (by kernel_rfl), hm133.sel [0] _ rfl (by kernel_rfl)⟩
          · refine reg [.bool false] [7, 8, 37] [(7, .slice A49 s75.2.length c50), (8, .int .i64 s75.1), (37, .bool false)] [.is (decide (s75.1 < (s75.2.length : Int)) = false)] hf80 (by kernel_rfl) ⟨(decide_eq_false c82), trivial⟩ fun a134 hf135 => ?_
            refine thenN ?_
            refine condF hf135 (by kernel_rfl) ?_
            refine wp_exit ?_
            refine thenE ?_
            refine thenE ?_
            obtain rfl := Option.some.inj H1
            exact .inl ⟨rfl, hf135.sel (l := [7, 8]) (by kernel_rfl), hm81.sel [0] _ rfl (by kernel_rfl)⟩
        rintro a136 w137 ⟨hf138, hm139⟩
        refine thenN ?_
        refine wp_seq ?_
        refine reg [] [4] [(4, .slice A49 r76.2.length c50)] [] hf138 (by kernel_rfl) trivial fun a140 hf141 => ?_
        refine thenN ?_
        refine wp_ret ?_
        have hm142 : Mem [] M w0 [.ow Kd.float 47 A49 c50 r76.2] w137 := hm139.sel [0] _ rfl (by kernel_rfl)
        obtain rfl := Option.some.inj H0
        refine ret [] [.slice A49 r76.2.length c50] [] hf141 (by kernel_rfl) trivial ?_
        exact ⟨_, rfl, A49, c50, rfl, hm142⟩
end Go.Proofs.Ytkcgiolledmbnaa
