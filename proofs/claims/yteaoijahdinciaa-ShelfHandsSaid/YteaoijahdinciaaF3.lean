/- Printed by gen.py. -/
import Derived.Test.YteaoijahdinciaaF0
namespace Go.Proofs.Yteaoijahdinciaa
open Go Go.RowKit
set_option linter.unusedSimpArgs false
set_option linter.unusedVariables false
set_option linter.unnecessarySimpa false
/-! ### slices.Equal[[]int,int] -/
noncomputable def slices_Equal_int.l0 (x0 : (List Int)) (x1 : (List Int)) (s28 : Int) : Step Int (Out2 Int Bool) :=
  if s28 < (x0.length : Int) then (if 0 ≤ s28 ∧ s28 < (x0.length : Int) then (if 0 ≤ s28 ∧ s28 < (x1.length : Int) then (if (rd x0 s28) = (rd x1 s28) then (.next (w64 (s28 + 1)))
  else (.done (.ret false)))
  else .bad)
  else .bad)
  else (.done (.go s28))
noncomputable def slices_Equal_int.f (x0 : (List Int)) (x1 : (List Int)) : Option Bool :=
  if (x0.length : Int) = (x1.length : Int) then ((loop (slices_Equal_int.l0 x0 x1) 0).bind fun r29 =>
  r29.on (fun yr29 =>
  some true) (fun y => some y))
  else (some false)
set_option maxRecDepth 100000 in
set_option maxHeartbeats 4000000 in
theorem slices_Equal_int.calls (M : List (Option Nat)) (w0 : World) (x0 : (List Int)) (A0 : Option Addr) (n0 c0 : Nat) (e0 : n0 = x0.length) (x1 : (List Int)) (A1 : Option Addr) (n1 c1 : Nat) (e1 : n1 = x1.length) (hm0 : Mem [] M w0 [.sl (Kd.int .i64) A0 c0 x0, .sl (Kd.int .i64) A1 c1 x1] w0) (r : Bool) (H0 : slices_Equal_int.f x0 x1 = some r) :
    Calls Try.prog 48 [.slice A0 n0 c0, .slice A1 n1 c1].toArray w0 (fun x w' => ∃ v, x = .returned v ∧ v = .bool r ∧ Mem [] M w0 [] w') := by
  subst e0
  subst e1
  unfold slices_Equal_int.f at H0
  refine enter (n := 26) Try.func48 rfl rfl (by kernel_rfl) fun a0 (hf0 : Fr 26 a0 [(0, .slice A0 x0.length c0), (1, .slice A1 x1.length c1)]) => ?_
  refine wp_seq ?_
  refine rg [] [(0, .slice A0 x0.length c0), (1, .slice A1 x1.length c1)] hf0 ot fun a21 hf22 => ?_
  refine thenN ?_
  refine wp_seq ?_
  refine wp_seq ?_
  rcases if_split H0 with ⟨c23, H0⟩ | ⟨c23, H0⟩
  rotate_left
  · refine rg [.bool true] [(0, .slice A0 x0.length c0), (1, .slice A1 x1.length c1), (10, .bool true)] hf22 (oi (neT c23) ot) fun a76 hf77 => ?_
    refine thenN ?_
    refine cT hf77 ?_
    refine wp_seq ?_
    refine rg [] [(4, .bool false)] hf77 ot fun a78 hf79 => ?_
    have hm80 := hm0.se [] _ rfl
    refine thenN ?_
    refine wp_ret ?_
    refine thenR ?_
    have hm81 : Mem [] M w0 [] w0 := hm80.se [] _ rfl
    obtain rfl := Option.some.inj H0
    refine rt [] [.bool false] hf79 ot ?_
    exact ⟨_, rfl, rfl, hm81⟩
  refine rg [.bool false] [(0, .slice A0 x0.length c0), (1, .slice A1 x1.length c1), (10, .bool false)] hf22 (oi (neF c23) ot) fun a24 hf25 => ?_
  refine thenN ?_
  refine cF hf25 ?_
  refine wp_skip ?_
  refine thenN ?_
  refine wp_seq ?_
  refine wp_seq ?_
  refine rg [] [(0, .slice A0 x0.length c0), (1, .slice A1 x1.length c1), (12, vi (x0.length : Int)), (13, vi 0)] hf25 ot fun a26 hf27 => ?_
  refine thenN ?_
  obtain ⟨r29, hr29, H0⟩ := ob_split H0
  refine wpBlock (Mid := fun (a : Act) (w : World) => ∃ yr29 : Int, r29 = .go yr29 ∧ Fr 26 a [(0, .slice A0 x0.length c0), (1, .slice A1 x1.length c1), (12, .int .i64 (x0.length : Int)), (13, .int .i64 yr29)] ∧ Mem [] M w0 [.sl (Kd.int .i64) A0 c0 x0, .sl (Kd.int .i64) A1 c1 x1] w) ?_ ?_
  · refine wpLoop (slices_Equal_int.l0 x0 x1) r29 (fun (s28 : Int) (a : Act) (w : World) => Fr 26 a [(0, .slice A0 x0.length c0), (1, .slice A1 x1.length c1), (12, .int .i64 (x0.length : Int)), (13, .int .i64 s28)] ∧ Mem [] M w0 [.sl (Kd.int .i64) A0 c0 x0, .sl (Kd.int .i64) A1 c1 x1] w) 0 hr29 ⟨hf27.se [0, 1, 12, 13], hm0.se [0, 1] _ rfl⟩ ?_
    rintro g30 s28 a31 w32 H1 ⟨hf33, hm34⟩
    unfold slices_Equal_int.l0 at H1
    refine wp_seq ?_
    rcases ifS_split H1 with ⟨c35, H1⟩ | ⟨c35, H1⟩
    rotate_left
    · refine rg (ob := [.is (decide (s28 < (x0.length : Int)) = false)]) [.bool false] [(0, .slice A0 x0.length c0), (1, .slice A1 x1.length c1), (12, vi (x0.length : Int)), (13, vi s28), (14, .bool false)] hf33 ⟨(decide_eq_false c35), trivial⟩ fun a65 hf66 => ?_
      refine thenN ?_
      refine wp_seq ?_
      refine cF hf66 ?_
      refine wp_exit ?_
      refine thenE ?_
      refine thenE ?_
      obtain rfl := Option.some.inj H1
      exact .inl ⟨rfl, s28, rfl, hf66.se [0, 1, 12, 13], hm34.se [0, 1] _ rfl⟩
    refine rg (ob := [.is (decide (s28 < (x0.length : Int)) = true)]) [.bool true] [(0, .slice A0 x0.length c0), (1, .slice A1 x1.length c1), (12, vi (x0.length : Int)), (13, vi s28), (14, .bool true)] hf33 ⟨(decide_eq_true c35), trivial⟩ fun a36 hf37 => ?_
    refine thenN ?_
    refine wp_seq ?_
    refine cT hf37 ?_
    refine wp_skip ?_
    refine thenN ?_
    refine wp_seq ?_
    refine wp_block ?_
    refine wp_seq ?_
    refine rg [] [(0, .slice A0 x0.length c0), (1, .slice A1 x1.length c1), (5, vi s28), (12, vi (x0.length : Int)), (13, vi s28)] hf37 ot fun a38 hf39 => ?_
    refine thenN ?_
    refine wp_seq ?_
    obtain ⟨g40, H1⟩ := ifS_guard H1
    obtain ⟨g41, H1⟩ := ifS_guard H1
    rcases ifS_split H1 with ⟨c42, H1⟩ | ⟨c42, H1⟩
    · have q43 := (hm34.slAt 0 rfl).int s28 g40.1 g40.2
      have q44 := (hm34.slAt 1 rfl).int s28 g41.1 g41.2
      refine rq [.int .i64 (rd x0 s28), .int .i64 (rd x1 s28), .bool false] [(0, .slice A0 x0.length c0), (1, .slice A1 x1.length c1), (12, vi (x0.length : Int)), (13, vi s28), (24, .bool false)] hf39 (oi q43.1 (oi g40 (oc q43.2 (oi q44.1 (oi g41 (oc q44.2 (oi (neF c42) ot))))))) fun a45 w47 hf46 hg48 => ?_
      have hm49 := hm34.still hg48
      refine thenN ?_
      refine cF hf46 ?_
      refine wp_skip ?_
      refine blkN ?_
      refine thenN ?_
      refine rg [] [(0, .slice A0 x0.length c0), (1, .slice A1 x1.length c1), (12, vi (x0.length : Int)), (13, vi (w64 (s28 + 1)))] hf46 ot fun a50 hf51 => ?_
      exact ⟨(w64 (s28 + 1)), H1, hf51.se [0, 1, 12, 13], hm49.se [0, 1] _ rfl⟩
    have q52 := (hm34.slAt 0 rfl).int s28 g40.1 g40.2
    have q53 := (hm34.slAt 1 rfl).int s28 g41.1 g41.2
    refine rq [.int .i64 (rd x0 s28), .int .i64 (rd x1 s28), .bool true] [(0, .slice A0 x0.length c0), (1, .slice A1 x1.length c1), (12, vi (x0.length : Int)), (13, vi s28), (24, .bool true)] hf39 (oi q52.1 (oi g40 (oc q52.2 (oi q53.1 (oi g41 (oc q53.2 (oi (neT c42) ot))))))) fun a54 w56 hf55 hg57 => ?_
    have hm58 := hm34.still hg57
    refine thenN ?_
    refine cT hf55 ?_
    refine wp_seq ?_
    refine rg [] [(4, .bool false)] hf55 ot fun a59 hf60 => ?_
    have hm61 := hm58.se [] _ rfl
    refine thenN ?_
    refine wp_ret ?_
    refine blkR ?_
    refine thenR ?_
    refine thenR ?_
    refine .inr ⟨rfl, ?_⟩
    refine thenR ?_
    have hm62 : Mem [] M w0 [] w56 := hm61.se [] _ rfl
    obtain rfl := Option.some.inj H1
    obtain rfl := Option.some.inj H0
    refine rt [] [.bool false] hf60 ot ?_
    exact ⟨_, rfl, rfl, hm62⟩
  rintro a67 w68 ⟨yr29, rfl, hf69, hm70⟩
  refine thenN ?_
  refine wp_seq ?_
  refine rg [] [(4, .bool true)] hf69 ot fun a71 hf72 => ?_
  have hm73 := hm70.se [] _ rfl
  refine thenN ?_
  refine wp_ret ?_
  have hm74 : Mem [] M w0 [] w68 := hm73.se [] _ rfl
  obtain rfl := Option.some.inj H0
  refine rt [] [.bool true] hf72 ot ?_
  exact ⟨_, rfl, rfl, hm74⟩

/-! ### backstitch/shape.Same -/
noncomputable def shape_Same.f (x0 : (List Int)) (x1 : (List Int)) : Option Bool :=
  (slices_Equal_int.f x0 x1).bind fun r23 =>
  some r23
set_option maxRecDepth 100000 in
set_option maxHeartbeats 4000000 in
theorem shape_Same.calls (M : List (Option Nat)) (w0 : World) (x0 : (List Int)) (A0 : Option Addr) (n0 c0 : Nat) (e0 : n0 = x0.length) (x1 : (List Int)) (A1 : Option Addr) (n1 c1 : Nat) (e1 : n1 = x1.length) (hm0 : Mem [] M w0 [.sl (Kd.int .i64) A0 c0 x0, .sl (Kd.int .i64) A1 c1 x1] w0) (r : Bool) (H0 : shape_Same.f x0 x1 = some r) :
    Calls Try.prog 35 [.slice A0 n0 c0, .slice A1 n1 c1].toArray w0 (fun x w' => ∃ v, x = .returned v ∧ v = .bool r ∧ Mem [] M w0 [] w') := by
  subst e0
  subst e1
  unfold shape_Same.f at H0
  refine enter (n := 8) Try.func35 rfl rfl (by kernel_rfl) fun a0 (hf0 : Fr 8 a0 [(0, .slice A0 x0.length c0), (1, .slice A1 x1.length c1)]) => ?_
  refine wp_seq ?_
  refine rg [] [(0, .slice A0 x0.length c0), (1, .slice A1 x1.length c1)] hf0 ot fun a21 hf22 => ?_
  refine thenN ?_
  refine wp_seq ?_
  obtain ⟨r23, hr23, H0⟩ := ob_split H0
  refine inReg ?_
  refine gg 2 [] [(5, .slice A0 x0.length c0), (6, .slice A1 x1.length c1)] hf22 ot fun a24 hf25 => ?_
  refine lo hf25 rfl (cl 7 hf25 callable48 (slices_Equal_int.calls _ _ _ _ _ _ rfl _ _ _ _ rfl (hm0.give [0, 1] [.sl (Kd.int .i64) A0 c0 x0, .sl (Kd.int .i64) A1 c1 x1] rfl rfl) r23 hr23) ?_)
  rintro _ w26 a27 ⟨rfl, hk29⟩ hf28
  have hm30 := hm0.still hk29.cum.none
  refine gg 1 [] [(4, .bool r23)] hf28 ot fun a31 hf32 => ?_
  refine endL rfl ?_
  have hm33 := hm30.se [] _ rfl
  refine thenN ?_
  refine wp_ret ?_
  have hm34 : Mem [] M w0 [] w26 := hm33.se [] _ rfl
  obtain rfl := Option.some.inj H0
  refine rt [] [.bool r23] hf32 ot ?_
  exact ⟨_, rfl, rfl, hm34⟩

/-! ### backstitch/kernel.two -/
set_option maxRecDepth 100000 in
set_option maxHeartbeats 4000000 in
theorem kernel_two.calls0 (M : List (Option Nat)) (w0 : World) (x0 : Int) (hm0 : Mem [] M w0 [] w0) (k0 : x0 = 4) :
    Calls Try.prog 49 [.int .i64 x0].toArray w0 (fun x w' => ∃ v, x = .returned v ∧ v = .func (.func 61) #[] #[] ∧ Mem [] M w0 [] w') := by
  refine enter (n := 12) Try.func49 rfl rfl (by kernel_rfl) fun a0 (hf0 : Fr 12 a0 [(0, .int .i64 x0)]) => ?_
  refine wp_seq ?_
  refine rg [] [(0, vi x0)] hf0 ot fun a21 hf22 => ?_
  refine thenN ?_
  refine wp_seq ?_
  refine wp_seq ?_
  refine rg [] [(3, vi x0)] hf22 ot fun a23 hf24 => ?_
  refine thenN ?_
  refine wp_block ?_
  refine wp_seq ?_
  refine rg [.bool true] [(3, vi x0), (4, .bool true)] hf24 (oi (eqT k0) ot) fun a25 hf26 => ?_
  refine thenN ?_
  refine cT hf26 ?_
  refine wp_seq ?_
  refine rg [] [(2, .func (.func 61) #[] #[])] hf26 ot fun a27 hf28 => ?_
  refine thenN ?_
  refine wp_ret ?_
  refine blkR ?_
  refine thenR ?_
  have hm29 : Mem [] M w0 [] w0 := hm0.se [] _ rfl
  refine rt [] [.func (.func 61) #[] #[]] hf28 ot ?_
  exact ⟨_, rfl, rfl, hm29⟩
set_option maxRecDepth 100000 in
set_option maxHeartbeats 4000000 in
theorem kernel_two.calls1 (M : List (Option Nat)) (w0 : World) (x0 : Int) (hm0 : Mem [] M w0 [] w0) (k0 : ¬ (x0 = 4)) (k1 : x0 = 5) :
    Calls Try.prog 49 [.int .i64 x0].toArray w0 (fun x w' => ∃ v, x = .returned v ∧ v = .func (.func 62) #[] #[] ∧ Mem [] M w0 [] w') := by
  refine enter (n := 12) Try.func49 rfl rfl (by kernel_rfl) fun a0 (hf0 : Fr 12 a0 [(0, .int .i64 x0)]) => ?_
  refine wp_seq ?_
  refine rg [] [(0, vi x0)] hf0 ot fun a21 hf22 => ?_
  refine thenN ?_
  refine wp_seq ?_
  refine wp_seq ?_
  refine rg [] [(3, vi x0)] hf22 ot fun a23 hf24 => ?_
  refine thenN ?_
  refine wp_block ?_
  refine wp_seq ?_
  refine rg [.bool false] [(3, vi x0), (4, .bool false)] hf24 (oi (eqF k0) ot) fun a25 hf26 => ?_
  refine thenN ?_
  refine cF hf26 ?_
  refine wp_seq ?_
  refine rg [.bool true] [(3, vi x0), (6, .bool true)] hf26 (oi (eqT k1) ot) fun a27 hf28 => ?_
  refine thenN ?_
  refine cT hf28 ?_
  refine wp_seq ?_
  refine rg [] [(2, .func (.func 62) #[] #[])] hf28 ot fun a29 hf30 => ?_
  refine thenN ?_
  refine wp_ret ?_
  refine blkR ?_
  refine thenR ?_
  have hm31 : Mem [] M w0 [] w0 := hm0.se [] _ rfl
  refine rt [] [.func (.func 62) #[] #[]] hf30 ot ?_
  exact ⟨_, rfl, rfl, hm31⟩
set_option maxRecDepth 100000 in
set_option maxHeartbeats 4000000 in
theorem kernel_two.calls2 (M : List (Option Nat)) (w0 : World) (x0 : Int) (hm0 : Mem [] M w0 [] w0) (k0 : ¬ (x0 = 4)) (k1 : ¬ (x0 = 5)) (k2 : x0 = 6) :
    Calls Try.prog 49 [.int .i64 x0].toArray w0 (fun x w' => ∃ v, x = .returned v ∧ v = .func (.func 63) #[] #[] ∧ Mem [] M w0 [] w') := by
  refine enter (n := 12) Try.func49 rfl rfl (by kernel_rfl) fun a0 (hf0 : Fr 12 a0 [(0, .int .i64 x0)]) => ?_
  refine wp_seq ?_
  refine rg [] [(0, vi x0)] hf0 ot fun a21 hf22 => ?_
  refine thenN ?_
  refine wp_seq ?_
  refine wp_seq ?_
  refine rg [] [(3, vi x0)] hf22 ot fun a23 hf24 => ?_
  refine thenN ?_
  refine wp_block ?_
  refine wp_seq ?_
  refine rg [.bool false] [(3, vi x0), (4, .bool false)] hf24 (oi (eqF k0) ot) fun a25 hf26 => ?_
  refine thenN ?_
  refine cF hf26 ?_
  refine wp_seq ?_
  refine rg [.bool false] [(3, vi x0), (6, .bool false)] hf26 (oi (eqF k1) ot) fun a27 hf28 => ?_
  refine thenN ?_
  refine cF hf28 ?_
  refine wp_seq ?_
  refine rg [.bool true] [(3, vi x0), (8, .bool true)] hf28 (oi (eqT k2) ot) fun a29 hf30 => ?_
  refine thenN ?_
  refine cT hf30 ?_
  refine wp_seq ?_
  refine rg [] [(2, .func (.func 63) #[] #[])] hf30 ot fun a31 hf32 => ?_
  refine thenN ?_
  refine wp_ret ?_
  refine blkR ?_
  refine thenR ?_
  have hm33 : Mem [] M w0 [] w0 := hm0.se [] _ rfl
  refine rt [] [.func (.func 63) #[] #[]] hf32 ot ?_
  exact ⟨_, rfl, rfl, hm33⟩
set_option maxRecDepth 100000 in
set_option maxHeartbeats 4000000 in
theorem kernel_two.calls3 (M : List (Option Nat)) (w0 : World) (x0 : Int) (hm0 : Mem [] M w0 [] w0) (k0 : ¬ (x0 = 4)) (k1 : ¬ (x0 = 5)) (k2 : ¬ (x0 = 6)) (k3 : x0 = 7) :
    Calls Try.prog 49 [.int .i64 x0].toArray w0 (fun x w' => ∃ v, x = .returned v ∧ v = .func (.func 64) #[] #[] ∧ Mem [] M w0 [] w') := by
  refine enter (n := 12) Try.func49 rfl rfl (by kernel_rfl) fun a0 (hf0 : Fr 12 a0 [(0, .int .i64 x0)]) => ?_
  refine wp_seq ?_
  refine rg [] [(0, vi x0)] hf0 ot fun a21 hf22 => ?_
  refine thenN ?_
  refine wp_seq ?_
  refine wp_seq ?_
  refine rg [] [(3, vi x0)] hf22 ot fun a23 hf24 => ?_
  refine thenN ?_
  refine wp_block ?_
  refine wp_seq ?_
  refine rg [.bool false] [(3, vi x0), (4, .bool false)] hf24 (oi (eqF k0) ot) fun a25 hf26 => ?_
  refine thenN ?_
  refine cF hf26 ?_
  refine wp_seq ?_
  refine rg [.bool false] [(3, vi x0), (6, .bool false)] hf26 (oi (eqF k1) ot) fun a27 hf28 => ?_
  refine thenN ?_
  refine cF hf28 ?_
  refine wp_seq ?_
  refine rg [.bool false] [(3, vi x0), (8, .bool false)] hf28 (oi (eqF k2) ot) fun a29 hf30 => ?_
  refine thenN ?_
  refine cF hf30 ?_
  refine wp_seq ?_
  refine rg [.bool true] [(10, .bool true)] hf30 (oi (eqT k3) ot) fun a31 hf32 => ?_
  refine thenN ?_
  refine cT hf32 ?_
  refine wp_seq ?_
  refine rg [] [(2, .func (.func 64) #[] #[])] hf32 ot fun a33 hf34 => ?_
  refine thenN ?_
  refine wp_ret ?_
  refine blkR ?_
  refine thenR ?_
  have hm35 : Mem [] M w0 [] w0 := hm0.se [] _ rfl
  refine rt [] [.func (.func 64) #[] #[]] hf34 ot ?_
  exact ⟨_, rfl, rfl, hm35⟩
set_option maxRecDepth 100000 in
set_option maxHeartbeats 4000000 in
theorem kernel_two.calls4 (M : List (Option Nat)) (w0 : World) (x0 : Int) (hm0 : Mem [] M w0 [] w0) (k0 : ¬ (x0 = 4)) (k1 : ¬ (x0 = 5)) (k2 : ¬ (x0 = 6)) (k3 : ¬ (x0 = 7)) :
    Calls Try.prog 49 [.int .i64 x0].toArray w0 (fun x w' => ∃ v, x = .returned v ∧ v = .nilFunc ∧ Mem [] M w0 [] w') := by
  refine enter (n := 12) Try.func49 rfl rfl (by kernel_rfl) fun a0 (hf0 : Fr 12 a0 [(0, .int .i64 x0)]) => ?_
  refine wp_seq ?_
  refine rg [] [(0, vi x0)] hf0 ot fun a21 hf22 => ?_
  refine thenN ?_
  refine wp_seq ?_
  refine wp_seq ?_
  refine rg [] [(3, vi x0)] hf22 ot fun a23 hf24 => ?_
  refine thenN ?_
  refine wp_block ?_
  refine wp_seq ?_
  refine rg [.bool false] [(3, vi x0), (4, .bool false)] hf24 (oi (eqF k0) ot) fun a25 hf26 => ?_
  refine thenN ?_
  refine cF hf26 ?_
  refine wp_seq ?_
  refine rg [.bool false] [(3, vi x0), (6, .bool false)] hf26 (oi (eqF k1) ot) fun a27 hf28 => ?_
  refine thenN ?_
  refine cF hf28 ?_
  refine wp_seq ?_
  refine rg [.bool false] [(3, vi x0), (8, .bool false)] hf28 (oi (eqF k2) ot) fun a29 hf30 => ?_
  refine thenN ?_
  refine cF hf30 ?_
  refine wp_seq ?_
  refine rg [.bool false] [(10, .bool false)] hf30 (oi (eqF k3) ot) fun a31 hf32 => ?_
  refine thenN ?_
  refine cF hf32 ?_
  refine wp_skip ?_
  refine blkN ?_
  refine thenN ?_
  refine wp_seq ?_
  refine rg [] [(2, .nilFunc)] hf32 ot fun a33 hf34 => ?_
  refine thenN ?_
  refine wp_ret ?_
  have hm35 : Mem [] M w0 [] w0 := hm0.se [] _ rfl
  refine rt [] [.nilFunc] hf34 ot ?_
  exact ⟨_, rfl, rfl, hm35⟩

/-! ### backstitch/shape.May -/
noncomputable def shape_May.f (x0 : (List Int)) : Option Bool :=
  (shape_Size.f x0).bind fun r23 =>
  if r23.2 = 0 then (some true)
  else (some false)
set_option maxRecDepth 100000 in
set_option maxHeartbeats 4000000 in
theorem shape_May.calls (M : List (Option Nat)) (w0 : World) (x0 : (List Int)) (A0 : Option Addr) (n0 c0 : Nat) (e0 : n0 = x0.length) (hm0 : Mem [] M w0 [.sl (Kd.int .i64) A0 c0 x0] w0) (r : Bool) (H0 : shape_May.f x0 = some r) :
    Calls Try.prog 65 [.slice A0 n0 c0].toArray w0 (fun x w' => ∃ v, x = .returned v ∧ v = .bool r ∧ Mem [] M w0 [] w') := by
  subst e0
  unfold shape_May.f at H0
  refine enter (n := 12) Try.func65 rfl rfl (by kernel_rfl) fun a0 (hf0 : Fr 12 a0 [(0, .slice A0 x0.length c0)]) => ?_
  refine wp_seq ?_
  refine rg [] [(0, .slice A0 x0.length c0)] hf0 ot fun a21 hf22 => ?_
  refine thenN ?_
  refine wp_seq ?_
  obtain ⟨r23, hr23, H0⟩ := ob_split H0
  refine inReg ?_
  refine gg 1 [] [(6, .slice A0 x0.length c0)] hf22 ot fun a24 hf25 => ?_
  refine lo hf25 rfl (cl 7 hf25 callable45 (shape_Size.calls _ _ _ _ _ _ rfl (hm0.give [0] [.sl (Kd.int .i64) A0 c0 x0] rfl rfl) r23 hr23) ?_)
  rintro _ w26 a27 ⟨rfl, hk29⟩ hf28
  have hm30 := hm0.still hk29.cum.none
  refine gg 5 [] [(4, vi r23.2)] hf28 ot fun a31 hf32 => ?_
  refine endL rfl ?_
  have hm33 := hm30.se [] _ rfl
  refine thenN ?_
  refine wp_seq ?_
  rcases if_split H0 with ⟨c34, H0⟩ | ⟨c34, H0⟩
  · refine rg [.bool true] [(2, .bool true)] hf32 (oi (eqT c34) ot) fun a35 hf36 => ?_
    refine thenN ?_
    refine wp_ret ?_
    have hm37 : Mem [] M w0 [] w26 := hm33.se [] _ rfl
    obtain rfl := Option.some.inj H0
    refine rt [] [.bool true] hf36 ot ?_
    exact ⟨_, rfl, rfl, hm37⟩
  refine rg [.bool false] [(2, .bool false)] hf32 (oi (eqF c34) ot) fun a39 hf40 => ?_
  refine thenN ?_
  refine wp_ret ?_
  have hm41 : Mem [] M w0 [] w26 := hm33.se [] _ rfl
  obtain rfl := Option.some.inj H0
  refine rt [] [.bool false] hf40 ot ?_
  exact ⟨_, rfl, rfl, hm41⟩

/-! ### backstitch/shape.number -/
noncomputable def shape_number.f (x0 : (List Int)) (x1 : Int) : Option Int :=
  if (x0.length : Int) ≤ x1 then (some 1)
  else (if 0 ≤ (w64 ((w64 ((x0.length : Int) - 1)) - x1)) ∧ (w64 ((w64 ((x0.length : Int) - 1)) - x1)) < (x0.length : Int) then (some (rd x0 (w64 ((w64 ((x0.length : Int) - 1)) - x1))))
  else none)
set_option maxRecDepth 100000 in
set_option maxHeartbeats 4000000 in
theorem shape_number.calls (M : List (Option Nat)) (w0 : World) (x0 : (List Int)) (A0 : Option Addr) (n0 c0 : Nat) (e0 : n0 = x0.length) (x1 : Int) (hm0 : Mem [] M w0 [.sl (Kd.int .i64) A0 c0 x0] w0) (r : Int) (H0 : shape_number.f x0 x1 = some r) :
    Calls Try.prog 66 [.slice A0 n0 c0, .int .i64 x1].toArray w0 (fun x w' => ∃ v, x = .returned v ∧ v = .int .i64 r ∧ Mem [] M w0 [] w') := by
  subst e0
  unfold shape_number.f at H0
  refine enter (n := 17) Try.func66 rfl rfl (by kernel_rfl) fun a0 (hf0 : Fr 17 a0 [(0, .slice A0 x0.length c0), (1, .int .i64 x1)]) => ?_
  refine wp_seq ?_
  refine rg [] [(0, .slice A0 x0.length c0), (1, vi x1)] hf0 ot fun a21 hf22 => ?_
  refine thenN ?_
  refine wp_seq ?_
  refine wp_seq ?_
  rcases if_split H0 with ⟨c23, H0⟩ | ⟨c23, H0⟩
  · refine rg (ob := [.is (decide ((x0.length : Int) ≤ x1) = true)]) [.bool true] [(0, .slice A0 x0.length c0), (1, vi x1), (8, .bool true)] hf22 ⟨(decide_eq_true c23), trivial⟩ fun a24 hf25 => ?_
    refine thenN ?_
    refine cT hf25 ?_
    refine wp_seq ?_
    refine rg [] [(4, vi 1)] hf25 ot fun a26 hf27 => ?_
    have hm28 := hm0.se [] _ rfl
    refine thenN ?_
    refine wp_ret ?_
    refine thenR ?_
    have hm29 : Mem [] M w0 [] w0 := hm28.se [] _ rfl
    obtain rfl := Option.some.inj H0
    refine rt [] [.int .i64 1] hf27 ot ?_
    exact ⟨_, rfl, rfl, hm29⟩
  refine rg (ob := [.is (decide ((x0.length : Int) ≤ x1) = false)]) [.bool false] [(0, .slice A0 x0.length c0), (1, vi x1), (8, .bool false)] hf22 ⟨(decide_eq_false c23), trivial⟩ fun a31 hf32 => ?_
  refine thenN ?_
  refine cF hf32 ?_
  refine wp_skip ?_
  refine thenN ?_
  refine wp_seq ?_
  obtain ⟨g33, H0⟩ := if_guard H0
  have q34 := (hm0.slAt 0 rfl).int (w64 ((w64 ((x0.length : Int) - 1)) - x1)) g33.1 g33.2
  refine rg [.int .i64 (rd x0 (w64 ((w64 ((x0.length : Int) - 1)) - x1)))] [(4, vi (rd x0 (w64 ((w64 ((x0.length : Int) - 1)) - x1))))] hf32 (oi q34.1 (oi g33 (oc q34.2 ot))) fun a35 hf36 => ?_
  have hm37 := hm0.se [] _ rfl
  refine thenN ?_
  refine wp_ret ?_
  have hm38 : Mem [] M w0 [] w0 := hm37.se [] _ rfl
  obtain rfl := Option.some.inj H0
  refine rt [] [.int .i64 (rd x0 (w64 ((w64 ((x0.length : Int) - 1)) - x1)))] hf36 ot ?_
  exact ⟨_, rfl, rfl, hm38⟩
end Go.Proofs.Yteaoijahdinciaa
