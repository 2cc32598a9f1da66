/- Printed by gen.py. -/
import Derived.Test.YteaoijahdinciaaK
namespace Go.Proofs.Yteaoijahdinciaa
open Go Go.RowKit
set_option linter.unusedSimpArgs false
set_option linter.unusedVariables false
set_option linter.unnecessarySimpa false
/-! ### backstitch/backstitchlaw19.awake$1 -/
noncomputable def law19_awake_1.f (x0 : Nat) : Option Tensor :=
  some (⟨([1] : List Int), ([x0] : List Nat)⟩ : Tensor)
set_option maxRecDepth 100000 in
set_option maxHeartbeats 4000000 in
theorem law19_awake_1.calls (M : List (Option Nat)) (w0 : World) (x0 : Nat) (b0 : Nat) (h0 : FR b0 x0) (hm0 : Mem [] M w0 [] w0) (r : Tensor) (H0 : law19_awake_1.f x0 = some r) :
    Calls Try.prog 29 [.float .f64 b0].toArray w0 (fun x w' => ∃ v, x = .returned v ∧ ∃ Ar0_0 cr0_0 Ar0_1 cr0_1, v = .agg #[.slice Ar0_0 r.Shape.length cr0_0, .slice Ar0_1 r.Data.length cr0_1] ∧ Mem [] M w0 [.ow (Kd.int .i64) 3 Ar0_0 cr0_0 r.Shape, .ow Kd.float 26 Ar0_1 cr0_1 r.Data] w') := by
  unfold law19_awake_1.f at H0
  refine enter (n := 7) Try.func29 rfl rfl (by kernel_rfl) fun a0 (hf0 : Fr 7 a0 [(0, .float .f64 b0)]) => ?_
  refine wp_seq ?_
  refine inReg ?_
  refine lo hf0 rfl (nw (cs := [.slice none 0 0, .slice none 0 0]) (T := 29) (d := 2) hf0 ?_)
  intro b21 w22 a23 hbb21 hx25 hg26 hf24
  have hm27 := hm0.box hbb21 hx25 hg26
  refine endL rfl ?_
  refine thenN ?_
  refine wp_seq ?_
  refine inReg ?_
  refine lo hf24 rfl (li (cs := [.int .i64 1]) (E := 3) (len := 1) (d := 3) hf24 ?_)
  intro b28 w29 a30 hbb28 hx32 hg33 hf31
  have hm34 : Mem [] M w0 [.ow (Kd.int .i64) 3 (some ⟨b28, 0, none⟩) 1 ([1] : List Int), .bx b21 [.slice none 0 0, .slice none 0 0] 29] w29 := Mem.litOwn (kd := (Kd.int .i64)) (xs := ([1] : List Int)) hm27 hbb28 hx32 hg33 (Els.one (kd := (Kd.int .i64)) (us := [.int .i64 1]) (x := 1) rfl) (by simp [maxLen])
  refine gg 1 [] [(2, vp b21), (3, .slice (some ⟨b28, 0, none⟩) 1 1), (4, vf b0)] hf31 ot fun a35 hf36 => ?_
  refine lo hf36 rfl (li (cs := [.float .f64 b0]) (E := 26) (len := 1) (d := 5) hf36 ?_)
  intro b37 w38 a39 hbb37 hx41 hg42 hf40
  have hm43 : Mem [] M w0 [.ow Kd.float 26 (some ⟨b37, 0, none⟩) 1 ([x0] : List Nat), .ow (Kd.int .i64) 3 (some ⟨b28, 0, none⟩) 1 ([1] : List Int), .bx b21 [.slice none 0 0, .slice none 0 0] 29] w38 := Mem.litOwn (kd := Kd.float) (xs := ([x0] : List Nat)) hm34 hbb37 hx41 hg42 (Els.one (kd := Kd.float) (us := [.float .f64 b0]) (x := x0) ⟨_, rfl, h0⟩) (by simp [maxLen])
  refine gg 1 [] [(2, vp b21), (6, .agg #[.slice (some ⟨b28, 0, none⟩) 1 1, .slice (some ⟨b37, 0, none⟩) 1 1])] hf40 ot fun a44 hf45 => ?_
  refine lo hf45 rfl (sb (j := 0) (us := [.slice (some ⟨b28, 0, none⟩) 1 1, .slice (some ⟨b37, 0, none⟩) 1 1]) (cs' := [.slice (some ⟨b28, 0, none⟩) 1 1, .slice (some ⟨b37, 0, none⟩) 1 1]) hf45 (hm43.bxAt 2 rfl) ?_)
  intro w46 hx47 hg48
  have hm49 := hm43.setBox 2 _ rfl rfl hx47 hg48
  refine endL rfl ?_
  refine thenN ?_
  refine wp_ret ?_
  have hm50 : Mem [] M w0 [.ow (Kd.int .i64) 3 (some ⟨b28, 0, none⟩) 1 ([1] : List Int), .ow Kd.float 26 (some ⟨b37, 0, none⟩) 1 ([x0] : List Nat)] w46 := hm49.se [1, 0] _ rfl
  obtain rfl := Option.some.inj H0
  refine rt [.agg #[.slice (some ⟨b28, 0, none⟩) 1 1, .slice (some ⟨b37, 0, none⟩) 1 1]] [.agg #[.slice (some ⟨b28, 0, none⟩) 1 1, .slice (some ⟨b37, 0, none⟩) 1 1]] hf45 (oc (hm49.cell (j := 0) 2 rfl rfl) (oc (hm49.cell (j := 1) 2 rfl rfl) ot)) ?_
  exact ⟨_, rfl, (some ⟨b28, 0, none⟩), 1, (some ⟨b37, 0, none⟩), 1, rfl, hm50⟩

/-! ### backstitch/shape.Size$1 -/
noncomputable def shape_Size_1.f (x0 : Int) : Option Bool :=
  if x0 < 1 then (some true)
  else (some false)
set_option maxRecDepth 100000 in
set_option maxHeartbeats 4000000 in
theorem shape_Size_1.calls (M : List (Option Nat)) (w0 : World) (x0 : Int) (hm0 : Mem [] M w0 [] w0) (r : Bool) (H0 : shape_Size_1.f x0 = some r) :
    Calls Try.prog 59 [.int .i64 x0].toArray w0 (fun x w' => ∃ v, x = .returned v ∧ v = .bool r ∧ Mem [] M w0 [] w') := by
  unfold shape_Size_1.f at H0
  refine enter (n := 5) Try.func59 rfl rfl (by kernel_rfl) fun a0 (hf0 : Fr 5 a0 [(0, .int .i64 x0)]) => ?_
  refine wp_seq ?_
  refine rg [] [(0, vi x0)] hf0 ot fun a21 hf22 => ?_
  refine thenN ?_
  refine wp_seq ?_
  rcases if_split H0 with ⟨c23, H0⟩ | ⟨c23, H0⟩
  · refine rg (ob := [.is (decide (x0 < 1) = true)]) [.bool true] [(2, .bool true)] hf22 ⟨(decide_eq_true c23), trivial⟩ fun a24 hf25 => ?_
    refine thenN ?_
    refine wp_ret ?_
    have hm26 : Mem [] M w0 [] w0 := hm0.se [] _ rfl
    obtain rfl := Option.some.inj H0
    refine rt [] [.bool true] hf25 ot ?_
    exact ⟨_, rfl, rfl, hm26⟩
  refine rg (ob := [.is (decide (x0 < 1) = false)]) [.bool false] [(2, .bool false)] hf22 ⟨(decide_eq_false c23), trivial⟩ fun a28 hf29 => ?_
  refine thenN ?_
  refine wp_ret ?_
  have hm30 : Mem [] M w0 [] w0 := hm0.se [] _ rfl
  obtain rfl := Option.some.inj H0
  refine rt [] [.bool false] hf29 ot ?_
  exact ⟨_, rfl, rfl, hm30⟩

/-! ### slices.IndexFunc[[]int,int] -/
noncomputable def slices_IndexFunc_int_shape_Size_1.l0 (x0 : (List Int)) (s25 : Int) : Step Int (Out2 Int Int) :=
  if s25 < (x0.length : Int) then (if 0 ≤ s25 ∧ s25 < (x0.length : Int) then (bindS (shape_Size_1.f (rd x0 s25)) fun r38 =>
  if r38 = true then (.done (.ret s25))
  else (.next (w64 (s25 + 1))))
  else .bad)
  else (.done (.go s25))
noncomputable def slices_IndexFunc_int_shape_Size_1.f (x0 : (List Int)) : Option Int :=
  (loop (slices_IndexFunc_int_shape_Size_1.l0 x0) 0).bind fun r26 =>
  r26.on (fun yr26 =>
  some (-1)) (fun y => some y)
set_option maxRecDepth 100000 in
set_option maxHeartbeats 4000000 in
theorem slices_IndexFunc_int_shape_Size_1.calls (M : List (Option Nat)) (w0 : World) (x0 : (List Int)) (A0 : Option Addr) (n0 c0 : Nat) (e0 : n0 = x0.length) (hm0 : Mem [] M w0 [.sl (Kd.int .i64) A0 c0 x0] w0) (r : Int) (H0 : slices_IndexFunc_int_shape_Size_1.f x0 = some r) :
    Calls Try.prog 71 [.slice A0 n0 c0, .func (.func 59) #[] #[]].toArray w0 (fun x w' => ∃ v, x = .returned v ∧ v = .int .i64 r ∧ Mem [] M w0 [] w') := by
  subst e0
  unfold slices_IndexFunc_int_shape_Size_1.f at H0
  refine enter (n := 19) Try.func71 rfl rfl (by kernel_rfl) fun a0 (hf0 : Fr 19 a0 [(0, .slice A0 x0.length c0), (1, .func (.func 59) #[] #[])]) => ?_
  refine wp_seq ?_
  refine rg [] [(0, .slice A0 x0.length c0), (1, .func (.func 59) #[] #[])] hf0 ot fun a21 hf22 => ?_
  refine thenN ?_
  refine wp_seq ?_
  refine wp_seq ?_
  refine rg [] [(0, .slice A0 x0.length c0), (1, .func (.func 59) #[] #[]), (7, vi (x0.length : Int)), (8, vi 0)] hf22 ot fun a23 hf24 => ?_
  refine thenN ?_
  obtain ⟨r26, hr26, H0⟩ := ob_split H0
  refine wpBlock (Mid := fun (a : Act) (w : World) => ∃ yr26 : Int, r26 = .go yr26 ∧ Fr 19 a [(0, .slice A0 x0.length c0), (1, .func (.func 59) #[] #[]), (7, .int .i64 (x0.length : Int)), (8, .int .i64 yr26)] ∧ Mem [] M w0 [.sl (Kd.int .i64) A0 c0 x0] w) ?_ ?_
  · refine wpLoop (slices_IndexFunc_int_shape_Size_1.l0 x0) r26 (fun (s25 : Int) (a : Act) (w : World) => Fr 19 a [(0, .slice A0 x0.length c0), (1, .func (.func 59) #[] #[]), (7, .int .i64 (x0.length : Int)), (8, .int .i64 s25)] ∧ Mem [] M w0 [.sl (Kd.int .i64) A0 c0 x0] w) 0 hr26 ⟨hf24.se [0, 1, 7, 8], hm0.se [0] _ rfl⟩ ?_
    rintro g27 s25 a28 w29 H1 ⟨hf30, hm31⟩
    unfold slices_IndexFunc_int_shape_Size_1.l0 at H1
    refine wp_seq ?_
    rcases ifS_split H1 with ⟨c32, H1⟩ | ⟨c32, H1⟩
    rotate_left
    · refine rg (ob := [.is (decide (s25 < (x0.length : Int)) = false)]) [.bool false] [(0, .slice A0 x0.length c0), (1, .func (.func 59) #[] #[]), (7, vi (x0.length : Int)), (8, vi s25), (9, .bool false)] hf30 ⟨(decide_eq_false c32), trivial⟩ fun a55 hf56 => ?_
      refine thenN ?_
      refine wp_seq ?_
      refine cF hf56 ?_
      refine wp_exit ?_
      refine thenE ?_
      refine thenE ?_
      obtain rfl := Option.some.inj H1
      exact .inl ⟨rfl, s25, rfl, hf56.se [0, 1, 7, 8], hm31.se [0] _ rfl⟩
    refine rg (ob := [.is (decide (s25 < (x0.length : Int)) = true)]) [.bool true] [(0, .slice A0 x0.length c0), (1, .func (.func 59) #[] #[]), (7, vi (x0.length : Int)), (8, vi s25), (9, .bool true)] hf30 ⟨(decide_eq_true c32), trivial⟩ fun a33 hf34 => ?_
    refine thenN ?_
    refine wp_seq ?_
    refine cT hf34 ?_
    refine wp_skip ?_
    refine thenN ?_
    refine wp_seq ?_
    refine wp_block ?_
    refine wp_seq ?_
    refine rg [] [(0, .slice A0 x0.length c0), (1, .func (.func 59) #[] #[]), (5, vi s25), (7, vi (x0.length : Int)), (8, vi s25)] hf34 ot fun a35 hf36 => ?_
    refine thenN ?_
    refine wp_seq ?_
    obtain ⟨g37, H1⟩ := ifS_guard H1
    obtain ⟨r38, hr38, H1⟩ := obS_split H1
    have q39 := (hm31.slAt 0 rfl).int s25 g37.1 g37.2
    refine inReg ?_
    refine gg 5 [.int .i64 (rd x0 s25)] [(0, .slice A0 x0.length c0), (1, .func (.func 59) #[] #[]), (5, vi s25), (7, vi (x0.length : Int)), (8, vi s25), (11, .func (.func 59) #[] #[]), (15, vi (rd x0 s25))] hf36 (oi q39.1 (oi g37 (oc q39.2 ot))) fun a40 hf41 => ?_
    refine lo hf41 rfl (cl 16 hf41 callable59 (shape_Size_1.calls _ _ (rd x0 s25) (hm31.give [] [] rfl rfl) r38 hr38) ?_)
    rintro _ w42 a43 ⟨rfl, hk45⟩ hf44
    have hm46 := hm31.still hk45.cum.none
    refine endL rfl ?_
    refine thenN ?_
    rcases ifbS_split H1 with ⟨c47, H1⟩ | ⟨c47, H1⟩
    rotate_left
    · rw [c47] at hf44
      refine cF hf44 ?_
      refine wp_skip ?_
      refine blkN ?_
      refine thenN ?_
      refine rg [] [(0, .slice A0 x0.length c0), (1, .func (.func 59) #[] #[]), (7, vi (x0.length : Int)), (8, vi (w64 (s25 + 1)))] hf44 ot fun a53 hf54 => ?_
      exact ⟨(w64 (s25 + 1)), H1, hf54.se [0, 1, 7, 8], hm46.se [0] _ rfl⟩
    rw [c47] at hf44
    refine cT hf44 ?_
    refine wp_seq ?_
    refine rg [] [(4, vi s25)] hf44 ot fun a48 hf49 => ?_
    have hm50 := hm46.se [] _ rfl
    refine thenN ?_
    refine wp_ret ?_
    refine blkR ?_
    refine thenR ?_
    refine thenR ?_
    refine .inr ⟨rfl, ?_⟩
    refine thenR ?_
    have hm51 : Mem [] M w0 [] w42 := hm50.se [] _ rfl
    obtain rfl := Option.some.inj H1
    obtain rfl := Option.some.inj H0
    refine rt [] [.int .i64 s25] hf49 ot ?_
    exact ⟨_, rfl, rfl, hm51⟩
  rintro a57 w58 ⟨yr26, rfl, hf59, hm60⟩
  refine thenN ?_
  refine wp_seq ?_
  refine rg [] [(4, vi (-1))] hf59 ot fun a61 hf62 => ?_
  have hm63 := hm60.se [] _ rfl
  refine thenN ?_
  refine wp_ret ?_
  have hm65 : Mem [] M w0 [] w58 := hm63.se [] _ rfl
  obtain rfl := Option.some.inj H0
  refine rt [] [.int .i64 (-1)] hf62 ot ?_
  exact ⟨_, rfl, rfl, hm65⟩

/-! ### slices.ContainsFunc[[]int,int] -/
noncomputable def slices_ContainsFunc_int_shape_Size_1.f (x0 : (List Int)) : Option Bool :=
  (slices_IndexFunc_int_shape_Size_1.f x0).bind fun r23 =>
  if 0 ≤ r23 then (some true)
  else (some false)
set_option maxRecDepth 100000 in
set_option maxHeartbeats 4000000 in
theorem slices_ContainsFunc_int_shape_Size_1.calls (M : List (Option Nat)) (w0 : World) (x0 : (List Int)) (A0 : Option Addr) (n0 c0 : Nat) (e0 : n0 = x0.length) (hm0 : Mem [] M w0 [.sl (Kd.int .i64) A0 c0 x0] w0) (r : Bool) (H0 : slices_ContainsFunc_int_shape_Size_1.f x0 = some r) :
    Calls Try.prog 58 [.slice A0 n0 c0, .func (.func 59) #[] #[]].toArray w0 (fun x w' => ∃ v, x = .returned v ∧ v = .bool r ∧ Mem [] M w0 [] w') := by
  subst e0
  unfold slices_ContainsFunc_int_shape_Size_1.f at H0
  refine enter (n := 9) Try.func58 rfl rfl (by kernel_rfl) fun a0 (hf0 : Fr 9 a0 [(0, .slice A0 x0.length c0), (1, .func (.func 59) #[] #[])]) => ?_
  refine wp_seq ?_
  refine rg [] [(0, .slice A0 x0.length c0), (1, .func (.func 59) #[] #[])] hf0 ot fun a21 hf22 => ?_
  refine thenN ?_
  refine wp_seq ?_
  obtain ⟨r23, hr23, H0⟩ := ob_split H0
  rcases if_split H0 with ⟨c24, H0⟩ | ⟨c24, H0⟩
  · refine inReg ?_
    refine gg 2 [] [(5, .slice A0 x0.length c0), (6, .func (.func 59) #[] #[])] hf22 ot fun a25 hf26 => ?_
    refine lo hf26 rfl (cl 7 hf26 callable71 (slices_IndexFunc_int_shape_Size_1.calls _ _ _ _ _ _ rfl (hm0.give [0] [.sl (Kd.int .i64) A0 c0 x0] rfl rfl) r23 hr23) ?_)
    rintro _ w27 a28 ⟨rfl, hk30⟩ hf29
    have hm31 := hm0.still hk30.cum.none
    refine gg (ob := [.is (decide (0 ≤ r23) = true)]) 2 [.bool true] [(4, .bool true)] hf29 ⟨(decide_eq_true c24), trivial⟩ fun a32 hf33 => ?_
    refine endL rfl ?_
    have hm34 := hm31.se [] _ rfl
    refine thenN ?_
    refine wp_ret ?_
    have hm35 : Mem [] M w0 [] w27 := hm34.se [] _ rfl
    obtain rfl := Option.some.inj H0
    refine rt [] [.bool true] hf33 ot ?_
    exact ⟨_, rfl, rfl, hm35⟩
  refine inReg ?_
  refine gg 2 [] [(5, .slice A0 x0.length c0), (6, .func (.func 59) #[] #[])] hf22 ot fun a37 hf38 => ?_
  refine lo hf38 rfl (cl 7 hf38 callable71 (slices_IndexFunc_int_shape_Size_1.calls _ _ _ _ _ _ rfl (hm0.give [0] [.sl (Kd.int .i64) A0 c0 x0] rfl rfl) r23 hr23) ?_)
  rintro _ w39 a40 ⟨rfl, hk42⟩ hf41
  have hm43 := hm0.still hk42.cum.none
  refine gg (ob := [.is (decide (0 ≤ r23) = false)]) 2 [.bool false] [(4, .bool false)] hf41 ⟨(decide_eq_false c24), trivial⟩ fun a44 hf45 => ?_
  refine endL rfl ?_
  have hm46 := hm43.se [] _ rfl
  refine thenN ?_
  refine wp_ret ?_
  have hm47 : Mem [] M w0 [] w39 := hm46.se [] _ rfl
  obtain rfl := Option.some.inj H0
  refine rt [] [.bool false] hf45 ot ?_
  exact ⟨_, rfl, rfl, hm47⟩

/-! ### backstitch/shape.Size -/
noncomputable def shape_Size.l0 (x0 : (List Int)) (s51 : (Int × Int)) : Step (Int × Int) (Out2 (Int × Int) (Int × Int)) :=
  if s51.2 < (x0.length : Int) then (if 0 ≤ s51.2 ∧ s51.2 < (x0.length : Int) then (if s51.1 ≠ 0 then (if (w64 (Int.tdiv 4096 s51.1)) < (rd x0 s51.2) then (.done (.ret (0, 3)))
  else (.next ((w64 (s51.1 * (rd x0 s51.2))), (w64 (s51.2 + 1)))))
  else .bad)
  else .bad)
  else (.done (.go (s51.1, s51.2)))
noncomputable def shape_Size.f (x0 : (List Int)) : Option (Int × Int) :=
  if 4 < (x0.length : Int) then (some (0, 2))
  else ((slices_ContainsFunc_int_shape_Size_1.f x0).bind fun r31 =>
  if r31 = true then (some (0, 2))
  else ((loop (shape_Size.l0 x0) (1, 0)).bind fun r52 =>
  r52.on (fun yr52 =>
  some (yr52.1, 0)) (fun y => some y)))
set_option maxRecDepth 100000 in
set_option maxHeartbeats 4000000 in
theorem shape_Size.calls (M : List (Option Nat)) (w0 : World) (x0 : (List Int)) (A0 : Option Addr) (n0 c0 : Nat) (e0 : n0 = x0.length) (hm0 : Mem [] M w0 [.sl (Kd.int .i64) A0 c0 x0] w0) (r : (Int × Int)) (H0 : shape_Size.f x0 = some r) :
    Calls Try.prog 45 [.slice A0 n0 c0].toArray w0 (fun x w' => ∃ v, x = .returned v ∧ v = .tuple #[.int .i64 r.1, .int .i64 r.2] ∧ Mem [] M w0 [] w') := by
  subst e0
  unfold shape_Size.f at H0
  refine enter (n := 29) Try.func45 rfl rfl (by kernel_rfl) fun a0 (hf0 : Fr 29 a0 [(0, .slice A0 x0.length c0)]) => ?_
  refine wp_seq ?_
  refine rg [] [(0, .slice A0 x0.length c0)] hf0 ot fun a21 hf22 => ?_
  refine thenN ?_
  refine wp_seq ?_
  refine wp_seq ?_
  rcases if_split H0 with ⟨c23, H0⟩ | ⟨c23, H0⟩
  · refine rg (ob := [.is (decide (4 < (x0.length : Int)) = true)]) [.bool true] [(0, .slice A0 x0.length c0), (13, .bool true)] hf22 ⟨(decide_eq_true c23), trivial⟩ fun a24 hf25 => ?_
    refine thenN ?_
    refine cT hf25 ?_
    refine wp_seq ?_
    refine rg [] [(2, vi 0), (3, vi 2)] hf25 ot fun a26 hf27 => ?_
    have hm28 := hm0.se [] _ rfl
    refine thenN ?_
    refine wp_ret ?_
    refine thenR ?_
    have hm29 : Mem [] M w0 [] w0 := hm28.se [] _ rfl
    obtain rfl := Option.some.inj H0
    refine rt [] [.int .i64 0, .int .i64 2] hf27 ot ?_
    exact ⟨_, rfl, rfl, hm29⟩
  obtain ⟨r31, hr31, H0⟩ := ob_split H0
  refine inReg ?_
  refine gg (ob := [.is (decide (4 < (x0.length : Int)) = false)]) 5 [.bool false] [(0, .slice A0 x0.length c0), (10, .bool false), (11, .slice A0 x0.length c0)] hf22 ⟨(decide_eq_false c23), trivial⟩ fun a32 hf33 => ?_
  refine lo hf33 rfl (cl 12 hf33 callable58 (slices_ContainsFunc_int_shape_Size_1.calls _ _ _ _ _ _ rfl (hm0.give [0] [.sl (Kd.int .i64) A0 c0 x0] rfl rfl) r31 hr31) ?_)
  rintro _ w34 a35 ⟨rfl, hk37⟩ hf36
  have hm38 := hm0.still hk37.cum.none
  refine gg 1 [] [(0, .slice A0 x0.length c0), (13, .bool r31)] hf36 ot fun a39 hf40 => ?_
  refine endL rfl ?_
  refine thenN ?_
  rcases ifb_split H0 with ⟨c41, H0⟩ | ⟨c41, H0⟩
  · rw [c41] at hf40
    refine cT hf40 ?_
    refine wp_seq ?_
    refine rg [] [(2, vi 0), (3, vi 2)] hf40 ot fun a42 hf43 => ?_
    have hm44 := hm38.se [] _ rfl
    refine thenN ?_
    refine wp_ret ?_
    refine thenR ?_
    have hm45 : Mem [] M w0 [] w34 := hm44.se [] _ rfl
    obtain rfl := Option.some.inj H0
    refine rt [] [.int .i64 0, .int .i64 2] hf43 ot ?_
    exact ⟨_, rfl, rfl, hm45⟩
  rw [c41] at hf40
  refine cF hf40 ?_
  refine wp_skip ?_
  refine thenN ?_
  refine wp_seq ?_
  refine rg [] [(0, .slice A0 x0.length c0), (4, vi 1)] hf40 ot fun a47 hf48 => ?_
  refine thenN ?_
  refine wp_seq ?_
  refine wp_seq ?_
  refine rg [] [(4, vi 1), (14, .slice A0 x0.length c0), (15, vi (x0.length : Int)), (16, vi 0)] hf48 ot fun a49 hf50 => ?_
  refine thenN ?_
  obtain ⟨r52, hr52, H0⟩ := ob_split H0
  refine wpBlock (Mid := fun (a : Act) (w : World) => ∃ yr52 : (Int × Int), r52 = .go yr52 ∧ Fr 29 a [(4, .int .i64 yr52.1), (14, .slice A0 x0.length c0), (15, .int .i64 (x0.length : Int)), (16, .int .i64 yr52.2)] ∧ Mem [] M w0 [.sl (Kd.int .i64) A0 c0 x0] w) ?_ ?_
  · refine wpLoop (shape_Size.l0 x0) r52 (fun (s51 : (Int × Int)) (a : Act) (w : World) => Fr 29 a [(4, .int .i64 s51.1), (14, .slice A0 x0.length c0), (15, .int .i64 (x0.length : Int)), (16, .int .i64 s51.2)] ∧ Mem [] M w0 [.sl (Kd.int .i64) A0 c0 x0] w) (1, 0) hr52 ⟨hf50.se [4, 14, 15, 16], hm38.se [0] _ rfl⟩ ?_
    rintro g53 s51 a54 w55 H1 ⟨hf56, hm57⟩
    unfold shape_Size.l0 at H1
    refine wp_seq ?_
    rcases ifS_split H1 with ⟨c58, H1⟩ | ⟨c58, H1⟩
    rotate_left
    · refine rg (ob := [.is (decide (s51.2 < (x0.length : Int)) = false)]) [.bool false] [(4, vi s51.1), (14, .slice A0 x0.length c0), (15, vi (x0.length : Int)), (16, vi s51.2), (17, .bool false)] hf56 ⟨(decide_eq_false c58), trivial⟩ fun a81 hf82 => ?_
      refine thenN ?_
      refine wp_seq ?_
      refine cF hf82 ?_
      refine wp_exit ?_
      refine thenE ?_
      refine thenE ?_
      obtain rfl := Option.some.inj H1
      exact .inl ⟨rfl, (s51.1, s51.2), rfl, hf82.se [4, 14, 15, 16], hm57.se [0] _ rfl⟩
    refine rg (ob := [.is (decide (s51.2 < (x0.length : Int)) = true)]) [.bool true] [(4, vi s51.1), (14, .slice A0 x0.length c0), (15, vi (x0.length : Int)), (16, vi s51.2), (17, .bool true)] hf56 ⟨(decide_eq_true c58), trivial⟩ fun a59 hf60 => ?_
    refine thenN ?_
    refine wp_seq ?_
    refine cT hf60 ?_
    refine wp_skip ?_
    refine thenN ?_
    refine wp_seq ?_
    refine wp_block ?_
    refine wp_seq ?_
    obtain ⟨g61, H1⟩ := ifS_guard H1
    have q62 := (hm57.slAt 0 rfl).int s51.2 g61.1 g61.2
    refine rg [.int .i64 (rd x0 s51.2)] [(4, vi s51.1), (6, vi (rd x0 s51.2)), (14, .slice A0 x0.length c0), (15, vi (x0.length : Int)), (16, vi s51.2)] hf60 (oi q62.1 (oi g61 (oc q62.2 ot))) fun a63 hf65 => ?_
    refine thenN ?_
    refine wp_seq ?_
    refine wp_seq ?_
    obtain ⟨g66, H1⟩ := ifS_guard H1
    rcases ifS_split H1 with ⟨c67, H1⟩ | ⟨c67, H1⟩
    rotate_left
    · refine rg (ob := [.is (s51.1 ≠ 0), .is (decide ((w64 (Int.tdiv 4096 s51.1)) < (rd x0 s51.2)) = false)]) [.bool false] [(4, vi s51.1), (6, vi (rd x0 s51.2)), (14, .slice A0 x0.length c0), (15, vi (x0.length : Int)), (16, vi s51.2), (23, .bool false)] hf65 ⟨g66, (decide_eq_false c67), trivial⟩ fun a75 hf76 => ?_
      refine thenN ?_
      refine cF hf76 ?_
      refine wp_skip ?_
      refine thenN ?_
      refine rg [] [(4, vi (w64 (s51.1 * (rd x0 s51.2)))), (14, .slice A0 x0.length c0), (15, vi (x0.length : Int)), (16, vi s51.2)] hf76 ot fun a77 hf78 => ?_
      refine blkN ?_
      refine thenN ?_
      refine rg [] [(4, vi (w64 (s51.1 * (rd x0 s51.2)))), (14, .slice A0 x0.length c0), (15, vi (x0.length : Int)), (16, vi (w64 (s51.2 + 1)))] hf78 ot fun a79 hf80 => ?_
      exact ⟨((w64 (s51.1 * (rd x0 s51.2))), (w64 (s51.2 + 1))), H1, hf80.se [4, 14, 15, 16], hm57.se [0] _ rfl⟩
    refine rg (ob := [.is (s51.1 ≠ 0), .is (decide ((w64 (Int.tdiv 4096 s51.1)) < (rd x0 s51.2)) = true)]) [.bool true] [(4, vi s51.1), (6, vi (rd x0 s51.2)), (14, .slice A0 x0.length c0), (15, vi (x0.length : Int)), (16, vi s51.2), (23, .bool true)] hf65 ⟨g66, (decide_eq_true c67), trivial⟩ fun a68 hf69 => ?_
    refine thenN ?_
    refine cT hf69 ?_
    refine wp_seq ?_
    refine rg [] [(2, vi 0), (3, vi 3)] hf69 ot fun a70 hf71 => ?_
    have hm72 := hm57.se [] _ rfl
    refine thenN ?_
    refine wp_ret ?_
    refine thenR ?_
    refine blkR ?_
    refine thenR ?_
    refine thenR ?_
    refine .inr ⟨rfl, ?_⟩
    refine thenR ?_
    have hm73 : Mem [] M w0 [] w55 := hm72.se [] _ rfl
    obtain rfl := Option.some.inj H1
    obtain rfl := Option.some.inj H0
    refine rt [] [.int .i64 0, .int .i64 3] hf71 ot ?_
    exact ⟨_, rfl, rfl, hm73⟩
  rintro a83 w84 ⟨yr52, rfl, hf85, hm86⟩
  refine thenN ?_
  refine wp_seq ?_
  refine rg [] [(2, vi yr52.1), (3, vi 0)] hf85 ot fun a87 hf88 => ?_
  have hm89 := hm86.se [] _ rfl
  refine thenN ?_
  refine wp_ret ?_
  have hm90 : Mem [] M w0 [] w84 := hm89.se [] _ rfl
  obtain rfl := Option.some.inj H0
  refine rt [] [.int .i64 yr52.1, .int .i64 0] hf88 ot ?_
  exact ⟨_, rfl, rfl, hm90⟩

/-! ### backstitch/tensor.May -/
noncomputable def tensor_May.f (x0 : Tensor) : Option Bool :=
  (shape_Size.f x0.Shape).bind fun r30 =>
  if r30.2 = 0 then (if (x0.Data.length : Int) = r30.1 then (some true)
  else (some false))
  else (some false)
set_option maxRecDepth 100000 in
set_option maxHeartbeats 4000000 in
theorem tensor_May.calls (M : List (Option Nat)) (w0 : World) (x0 : Tensor) (A0_0 : Option Addr) (n0_0 c0_0 : Nat) (e0_0 : n0_0 = x0.Shape.length) (A0_1 : Option Addr) (n0_1 c0_1 : Nat) (e0_1 : n0_1 = x0.Data.length) (hm0 : Mem [] M w0 [.sl (Kd.int .i64) A0_0 c0_0 x0.Shape, .sl Kd.float A0_1 c0_1 x0.Data] w0) (r : Bool) (H0 : tensor_May.f x0 = some r) :
    Calls Try.prog 32 [.agg #[.slice A0_0 n0_0 c0_0, .slice A0_1 n0_1 c0_1]].toArray w0 (fun x w' => ∃ v, x = .returned v ∧ v = .bool r ∧ Mem [] M w0 [] w') := by
  subst e0_0
  subst e0_1
  unfold tensor_May.f at H0
  refine enter (n := 20) Try.func32 rfl rfl (by kernel_rfl) fun a0 (hf0 : Fr 20 a0 [(0, .agg #[.slice A0_0 x0.Shape.length c0_0, .slice A0_1 x0.Data.length c0_1])]) => ?_
  refine wp_seq ?_
  refine inReg ?_
  refine lo hf0 rfl (nw (cs := [.slice A0_0 x0.Shape.length c0_0, .slice A0_1 x0.Data.length c0_1]) (T := 29) (d := 1) hf0 ?_)
  intro b21 w22 a23 hbb21 hx25 hg26 hf24
  have hm27 := hm0.box hbb21 hx25 hg26
  refine gg 1 [] [(1, vp b21)] hf24 ot fun a28 hf29 => ?_
  refine endL rfl ?_
  refine thenN ?_
  refine wp_seq ?_
  obtain ⟨r30, hr30, H0⟩ := ob_split H0
  refine inReg ?_
  refine gg 2 [.slice A0_0 x0.Shape.length c0_0] [(1, vp b21), (7, .slice A0_0 x0.Shape.length c0_0)] hf29 (oc (hm27.cell (j := 0) 0 rfl rfl) ot) fun a31 hf32 => ?_
  refine lo hf32 rfl (cl 8 hf32 callable45 (shape_Size.calls _ _ _ _ _ _ rfl (hm27.give [1] [.sl (Kd.int .i64) A0_0 c0_0 x0.Shape] rfl rfl) r30 hr30) ?_)
  rintro _ w33 a34 ⟨rfl, hk36⟩ hf35
  have hm37 := hm27.still hk36.cum.none
  refine gg 5 [] [(1, vp b21), (3, vi r30.1), (4, vi r30.2)] hf35 ot fun a38 hf39 => ?_
  refine endL rfl ?_
  refine thenN ?_
  refine wp_seq ?_
  rcases if_split H0 with ⟨c40, H0⟩ | ⟨c40, H0⟩
  rotate_left
  · refine rg [.bool false] [(2, .bool false)] hf39 (oi (eqF c40) ot) fun a52 hf53 => ?_
    have hm54 := hm37.se [] _ rfl
    refine thenN ?_
    refine wp_ret ?_
    have hm55 : Mem [] M w0 [] w33 := hm54.se [] _ rfl
    obtain rfl := Option.some.inj H0
    refine rt [] [.bool false] hf53 ot ?_
    exact ⟨_, rfl, rfl, hm55⟩
  rcases if_split H0 with ⟨c41, H0⟩ | ⟨c41, H0⟩
  · refine rg [.bool true, .slice A0_1 x0.Data.length c0_1, .bool true] [(2, .bool true)] hf39 (oi (eqT c40) (oc (hm37.cell (j := 1) 0 rfl rfl) (oi (eqT c41) ot))) fun a42 hf43 => ?_
    have hm44 := hm37.se [] _ rfl
    refine thenN ?_
    refine wp_ret ?_
    have hm45 : Mem [] M w0 [] w33 := hm44.se [] _ rfl
    obtain rfl := Option.some.inj H0
    refine rt [] [.bool true] hf43 ot ?_
    exact ⟨_, rfl, rfl, hm45⟩
  refine rg [.bool true, .slice A0_1 x0.Data.length c0_1, .bool false] [(2, .bool false)] hf39 (oi (eqT c40) (oc (hm37.cell (j := 1) 0 rfl rfl) (oi (eqF c41) ot))) fun a47 hf48 => ?_
  have hm49 := hm37.se [] _ rfl
  refine thenN ?_
  refine wp_ret ?_
  have hm50 : Mem [] M w0 [] w33 := hm49.se [] _ rfl
  obtain rfl := Option.some.inj H0
  refine rt [] [.bool false] hf48 ot ?_
  exact ⟨_, rfl, rfl, hm50⟩

/-! ### backstitch/shelf.New$1 -/
noncomputable def shelf_New_1.f (x0 : Tensor) : Option Bool :=
  (tensor_May.f x0).bind fun r30 =>
  if r30 = true then (some false)
  else (some true)
set_option maxRecDepth 100000 in
set_option maxHeartbeats 4000000 in
theorem shelf_New_1.calls (M : List (Option Nat)) (w0 : World) (x0 : Tensor) (A0_0 : Option Addr) (n0_0 c0_0 : Nat) (e0_0 : n0_0 = x0.Shape.length) (A0_1 : Option Addr) (n0_1 c0_1 : Nat) (e0_1 : n0_1 = x0.Data.length) (hm0 : Mem [] M w0 [.sl (Kd.int .i64) A0_0 c0_0 x0.Shape, .sl Kd.float A0_1 c0_1 x0.Data] w0) (r : Bool) (H0 : shelf_New_1.f x0 = some r) :
    Calls Try.prog 31 [.agg #[.slice A0_0 n0_0 c0_0, .slice A0_1 n0_1 c0_1]].toArray w0 (fun x w' => ∃ v, x = .returned v ∧ v = .bool r ∧ Mem [] M w0 [] w') := by
  subst e0_0
  subst e0_1
  unfold shelf_New_1.f at H0
  refine enter (n := 6) Try.func31 rfl rfl (by kernel_rfl) fun a0 (hf0 : Fr 6 a0 [(0, .agg #[.slice A0_0 x0.Shape.length c0_0, .slice A0_1 x0.Data.length c0_1])]) => ?_
  refine wp_seq ?_
  refine inReg ?_
  refine lo hf0 rfl (nw (cs := [.slice A0_0 x0.Shape.length c0_0, .slice A0_1 x0.Data.length c0_1]) (T := 29) (d := 1) hf0 ?_)
  intro b21 w22 a23 hbb21 hx25 hg26 hf24
  have hm27 := hm0.box hbb21 hx25 hg26
  refine gg 1 [] [(1, vp b21)] hf24 ot fun a28 hf29 => ?_
  refine endL rfl ?_
  refine thenN ?_
  refine wp_seq ?_
  obtain ⟨r30, hr30, H0⟩ := ob_split H0
  rcases ifb_split H0 with ⟨c31, H0⟩ | ⟨c31, H0⟩
  · refine inReg ?_
    refine gg 1 [.agg #[.slice A0_0 x0.Shape.length c0_0, .slice A0_1 x0.Data.length c0_1]] [(3, .agg #[.slice A0_0 x0.Shape.length c0_0, .slice A0_1 x0.Data.length c0_1])] hf29 (oc (hm27.cell (j := 0) 0 rfl rfl) (oc (hm27.cell (j := 1) 0 rfl rfl) ot)) fun a32 hf33 => ?_
    refine lo hf33 rfl (cl 4 hf33 callable32 (tensor_May.calls _ _ _ _ _ _ rfl _ _ _ rfl (hm27.give [1, 2] [.sl (Kd.int .i64) A0_0 c0_0 x0.Shape, .sl Kd.float A0_1 c0_1 x0.Data] rfl rfl) r30 hr30) ?_)
    rintro _ w34 a35 ⟨rfl, hk37⟩ hf36
    have hm38 := hm27.still hk37.cum.none
    rw [c31] at hf36
    refine gg 2 [] [(2, .bool false)] hf36 ot fun a39 hf40 => ?_
    refine endL rfl ?_
    have hm41 := hm38.se [] _ rfl
    refine thenN ?_
    refine wp_ret ?_
    have hm42 : Mem [] M w0 [] w34 := hm41.se [] _ rfl
    obtain rfl := Option.some.inj H0
    refine rt [] [.bool false] hf40 ot ?_
    exact ⟨_, rfl, rfl, hm42⟩
  refine inReg ?_
  refine gg 1 [.agg #[.slice A0_0 x0.Shape.length c0_0, .slice A0_1 x0.Data.length c0_1]] [(3, .agg #[.slice A0_0 x0.Shape.length c0_0, .slice A0_1 x0.Data.length c0_1])] hf29 (oc (hm27.cell (j := 0) 0 rfl rfl) (oc (hm27.cell (j := 1) 0 rfl rfl) ot)) fun a44 hf45 => ?_
  refine lo hf45 rfl (cl 4 hf45 callable32 (tensor_May.calls _ _ _ _ _ _ rfl _ _ _ rfl (hm27.give [1, 2] [.sl (Kd.int .i64) A0_0 c0_0 x0.Shape, .sl Kd.float A0_1 c0_1 x0.Data] rfl rfl) r30 hr30) ?_)
  rintro _ w46 a47 ⟨rfl, hk49⟩ hf48
  have hm50 := hm27.still hk49.cum.none
  rw [c31] at hf48
  refine gg 2 [] [(2, .bool true)] hf48 ot fun a51 hf52 => ?_
  refine endL rfl ?_
  have hm53 := hm50.se [] _ rfl
  refine thenN ?_
  refine wp_ret ?_
  have hm54 : Mem [] M w0 [] w46 := hm53.se [] _ rfl
  obtain rfl := Option.some.inj H0
  refine rt [] [.bool true] hf52 ot ?_
  exact ⟨_, rfl, rfl, hm54⟩

/-! ### slices.IndexFunc[[]backstitch/api.Tensor,backstitch/api.Tensor] -/
noncomputable def slices_IndexFunc_api_Tensor_shelf_New_1.l0 (x0 : (List Tensor)) (s25 : Int) : Step Int (Out2 Int Int) :=
  if s25 < (x0.length : Int) then (if 0 ≤ s25 ∧ s25 < (x0.length : Int) then (bindS (shelf_New_1.f (⟨(rd x0 s25).Shape, (rd x0 s25).Data⟩ : Tensor)) fun r38 =>
  if r38 = true then (.done (.ret s25))
  else (.next (w64 (s25 + 1))))
  else .bad)
  else (.done (.go s25))
noncomputable def slices_IndexFunc_api_Tensor_shelf_New_1.f (x0 : (List Tensor)) : Option Int :=
  (loop (slices_IndexFunc_api_Tensor_shelf_New_1.l0 x0) 0).bind fun r26 =>
  r26.on (fun yr26 =>
  some (-1)) (fun y => some y)
set_option maxRecDepth 100000 in
set_option maxHeartbeats 4000000 in
theorem slices_IndexFunc_api_Tensor_shelf_New_1.calls (M : List (Option Nat)) (w0 : World) (x0 : (List Tensor)) (A0 : Option Addr) (n0 c0 : Nat) (e0 : n0 = x0.length) (hm0 : Mem [] M w0 [.sl kTensor A0 c0 x0] w0) (r : Int) (H0 : slices_IndexFunc_api_Tensor_shelf_New_1.f x0 = some r) :
    Calls Try.prog 44 [.slice A0 n0 c0, .func (.func 31) #[] #[]].toArray w0 (fun x w' => ∃ v, x = .returned v ∧ v = .int .i64 r ∧ Mem [] M w0 [] w') := by
  subst e0
  unfold slices_IndexFunc_api_Tensor_shelf_New_1.f at H0
  refine enter (n := 19) Try.func44 rfl rfl (by kernel_rfl) fun a0 (hf0 : Fr 19 a0 [(0, .slice A0 x0.length c0), (1, .func (.func 31) #[] #[])]) => ?_
  refine wp_seq ?_
  refine rg [] [(0, .slice A0 x0.length c0), (1, .func (.func 31) #[] #[])] hf0 ot fun a21 hf22 => ?_
  refine thenN ?_
  refine wp_seq ?_
  refine wp_seq ?_
  refine rg [] [(0, .slice A0 x0.length c0), (1, .func (.func 31) #[] #[]), (7, vi (x0.length : Int)), (8, vi 0)] hf22 ot fun a23 hf24 => ?_
  refine thenN ?_
  obtain ⟨r26, hr26, H0⟩ := ob_split H0
  refine wpBlock (Mid := fun (a : Act) (w : World) => ∃ yr26 : Int, r26 = .go yr26 ∧ Fr 19 a [(0, .slice A0 x0.length c0), (1, .func (.func 31) #[] #[]), (7, .int .i64 (x0.length : Int)), (8, .int .i64 yr26)] ∧ Mem [] M w0 [.sl kTensor A0 c0 x0] w) ?_ ?_
  · refine wpLoop (slices_IndexFunc_api_Tensor_shelf_New_1.l0 x0) r26 (fun (s25 : Int) (a : Act) (w : World) => Fr 19 a [(0, .slice A0 x0.length c0), (1, .func (.func 31) #[] #[]), (7, .int .i64 (x0.length : Int)), (8, .int .i64 s25)] ∧ Mem [] M w0 [.sl kTensor A0 c0 x0] w) 0 hr26 ⟨hf24.se [0, 1, 7, 8], hm0.se [0] _ rfl⟩ ?_
    rintro g27 s25 a28 w29 H1 ⟨hf30, hm31⟩
    unfold slices_IndexFunc_api_Tensor_shelf_New_1.l0 at H1
    refine wp_seq ?_
    rcases ifS_split H1 with ⟨c32, H1⟩ | ⟨c32, H1⟩
    rotate_left
    · refine rg (ob := [.is (decide (s25 < (x0.length : Int)) = false)]) [.bool false] [(0, .slice A0 x0.length c0), (1, .func (.func 31) #[] #[]), (7, vi (x0.length : Int)), (8, vi s25), (9, .bool false)] hf30 ⟨(decide_eq_false c32), trivial⟩ fun a66 hf67 => ?_
      refine thenN ?_
      refine wp_seq ?_
      refine cF hf67 ?_
      refine wp_exit ?_
      refine thenE ?_
      refine thenE ?_
      obtain rfl := Option.some.inj H1
      exact .inl ⟨rfl, s25, rfl, hf67.se [0, 1, 7, 8], hm31.se [0] _ rfl⟩
    refine rg (ob := [.is (decide (s25 < (x0.length : Int)) = true)]) [.bool true] [(0, .slice A0 x0.length c0), (1, .func (.func 31) #[] #[]), (7, vi (x0.length : Int)), (8, vi s25), (9, .bool true)] hf30 ⟨(decide_eq_true c32), trivial⟩ fun a33 hf34 => ?_
    refine thenN ?_
    refine wp_seq ?_
    refine cT hf34 ?_
    refine wp_skip ?_
    refine thenN ?_
    refine wp_seq ?_
    refine wp_block ?_
    refine wp_seq ?_
    refine rg [] [(0, .slice A0 x0.length c0), (1, .func (.func 31) #[] #[]), (5, vi s25), (7, vi (x0.length : Int)), (8, vi s25)] hf34 ot fun a35 hf36 => ?_
    refine thenN ?_
    refine wp_seq ?_
    obtain ⟨g37, H1⟩ := ifS_guard H1
    obtain ⟨r38, hr38, H1⟩ := obS_split H1
    have q39 := (hm31.slAt 0 rfl).get s25 g37.1 g37.2
    obtain ⟨us40, hr41, hc42⟩ := q39.2
    obtain ⟨A43, c44, A45, c46, rfl, ⟨pA43, sA43⟩, ⟨pA45, sA45⟩⟩ := kTensor.open hr41
    have hm47 := hm31.elem pA43 sA43
    have hm48 := hm47.elem pA45 sA45
    refine inReg ?_
    refine gg 5 [.agg #[.slice A43 (rd x0 s25).Shape.length c44, .slice A45 (rd x0 s25).Data.length c46]] [(0, .slice A0 x0.length c0), (1, .func (.func 31) #[] #[]), (5, vi s25), (7, vi (x0.length : Int)), (8, vi s25), (11, .func (.func 31) #[] #[]), (15, .agg #[.slice A43 (rd x0 s25).Shape.length c44, .slice A45 (rd x0 s25).Data.length c46])] hf36 (oi q39.1 (oi g37 (oc (hc42 0 _ rfl) (oc (hc42 1 _ rfl) ot)))) fun a49 hf50 => ?_
    refine lo hf50 rfl (cl 16 hf50 callable31 (shelf_New_1.calls _ _ _ _ _ _ rfl _ _ _ rfl (hm48.give [1, 0] [.sl (Kd.int .i64) A43 c44 (rd x0 s25).Shape, .sl Kd.float A45 c46 (rd x0 s25).Data] rfl rfl) r38 hr38) ?_)
    rintro _ w51 a52 ⟨rfl, hk54⟩ hf53
    have hm55 := hm48.still hk54.cum.none
    refine endL rfl ?_
    have hm56 := hm55.se [2] _ rfl
    refine thenN ?_
    rcases ifbS_split H1 with ⟨c57, H1⟩ | ⟨c57, H1⟩
    rotate_left
    · rw [c57] at hf53
      refine cF hf53 ?_
      refine wp_skip ?_
      refine blkN ?_
      refine thenN ?_
      refine rg [] [(0, .slice A0 x0.length c0), (1, .func (.func 31) #[] #[]), (7, vi (x0.length : Int)), (8, vi (w64 (s25 + 1)))] hf53 ot fun a63 hf65 => ?_
      exact ⟨(w64 (s25 + 1)), H1, hf65.se [0, 1, 7, 8], hm56.se [0] _ rfl⟩
    rw [c57] at hf53
    refine cT hf53 ?_
    refine wp_seq ?_
    refine rg [] [(4, vi s25)] hf53 ot fun a58 hf59 => ?_
    have hm60 := hm56.se [] _ rfl
    refine thenN ?_
    refine wp_ret ?_
    refine blkR ?_
    refine thenR ?_
    refine thenR ?_
    refine .inr ⟨rfl, ?_⟩
    refine thenR ?_
    have hm61 : Mem [] M w0 [] w51 := hm60.se [] _ rfl
    obtain rfl := Option.some.inj H1
    obtain rfl := Option.some.inj H0
    refine rt [] [.int .i64 s25] hf59 ot ?_
    exact ⟨_, rfl, rfl, hm61⟩
  rintro a68 w69 ⟨yr26, rfl, hf70, hm71⟩
  refine thenN ?_
  refine wp_seq ?_
  refine rg [] [(4, vi (-1))] hf70 ot fun a72 hf73 => ?_
  have hm74 := hm71.se [] _ rfl
  refine thenN ?_
  refine wp_ret ?_
  have hm75 : Mem [] M w0 [] w69 := hm74.se [] _ rfl
  obtain rfl := Option.some.inj H0
  refine rt [] [.int .i64 (-1)] hf73 ot ?_
  exact ⟨_, rfl, rfl, hm75⟩

/-! ### slices.ContainsFunc[[]backstitch/api.Tensor,backstitch/api.Tensor] -/
noncomputable def slices_ContainsFunc_api_Tensor_shelf_New_1.f (x0 : (List Tensor)) : Option Bool :=
  (slices_IndexFunc_api_Tensor_shelf_New_1.f x0).bind fun r23 =>
  if 0 ≤ r23 then (some true)
  else (some false)
set_option maxRecDepth 100000 in
set_option maxHeartbeats 4000000 in
theorem slices_ContainsFunc_api_Tensor_shelf_New_1.calls (M : List (Option Nat)) (w0 : World) (x0 : (List Tensor)) (A0 : Option Addr) (n0 c0 : Nat) (e0 : n0 = x0.length) (hm0 : Mem [] M w0 [.sl kTensor A0 c0 x0] w0) (r : Bool) (H0 : slices_ContainsFunc_api_Tensor_shelf_New_1.f x0 = some r) :
    Calls Try.prog 30 [.slice A0 n0 c0, .func (.func 31) #[] #[]].toArray w0 (fun x w' => ∃ v, x = .returned v ∧ v = .bool r ∧ Mem [] M w0 [] w') := by
  subst e0
  unfold slices_ContainsFunc_api_Tensor_shelf_New_1.f at H0
  refine enter (n := 9) Try.func30 rfl rfl (by kernel_rfl) fun a0 (hf0 : Fr 9 a0 [(0, .slice A0 x0.length c0), (1, .func (.func 31) #[] #[])]) => ?_
  refine wp_seq ?_
  refine rg [] [(0, .slice A0 x0.length c0), (1, .func (.func 31) #[] #[])] hf0 ot fun a21 hf22 => ?_
  refine thenN ?_
  refine wp_seq ?_
  obtain ⟨r23, hr23, H0⟩ := ob_split H0
  rcases if_split H0 with ⟨c24, H0⟩ | ⟨c24, H0⟩
  · refine inReg ?_
    refine gg 2 [] [(5, .slice A0 x0.length c0), (6, .func (.func 31) #[] #[])] hf22 ot fun a25 hf26 => ?_
    refine lo hf26 rfl (cl 7 hf26 callable44 (slices_IndexFunc_api_Tensor_shelf_New_1.calls _ _ _ _ _ _ rfl (hm0.give [0] [.sl kTensor A0 c0 x0] rfl rfl) r23 hr23) ?_)
    rintro _ w27 a28 ⟨rfl, hk30⟩ hf29
    have hm31 := hm0.still hk30.cum.none
    refine gg (ob := [.is (decide (0 ≤ r23) = true)]) 2 [.bool true] [(4, .bool true)] hf29 ⟨(decide_eq_true c24), trivial⟩ fun a32 hf33 => ?_
    refine endL rfl ?_
    have hm34 := hm31.se [] _ rfl
    refine thenN ?_
    refine wp_ret ?_
    have hm35 : Mem [] M w0 [] w27 := hm34.se [] _ rfl
    obtain rfl := Option.some.inj H0
    refine rt [] [.bool true] hf33 ot ?_
    exact ⟨_, rfl, rfl, hm35⟩
  refine inReg ?_
  refine gg 2 [] [(5, .slice A0 x0.length c0), (6, .func (.func 31) #[] #[])] hf22 ot fun a37 hf38 => ?_
  refine lo hf38 rfl (cl 7 hf38 callable44 (slices_IndexFunc_api_Tensor_shelf_New_1.calls _ _ _ _ _ _ rfl (hm0.give [0] [.sl kTensor A0 c0 x0] rfl rfl) r23 hr23) ?_)
  rintro _ w39 a40 ⟨rfl, hk42⟩ hf41
  have hm43 := hm0.still hk42.cum.none
  refine gg (ob := [.is (decide (0 ≤ r23) = false)]) 2 [.bool false] [(4, .bool false)] hf41 ⟨(decide_eq_false c24), trivial⟩ fun a44 hf45 => ?_
  refine endL rfl ?_
  have hm46 := hm43.se [] _ rfl
  refine thenN ?_
  refine wp_ret ?_
  have hm47 : Mem [] M w0 [] w39 := hm46.se [] _ rfl
  obtain rfl := Option.some.inj H0
  refine rt [] [.bool false] hf45 ot ?_
  exact ⟨_, rfl, rfl, hm47⟩
end Go.Proofs.Yteaoijahdinciaa
