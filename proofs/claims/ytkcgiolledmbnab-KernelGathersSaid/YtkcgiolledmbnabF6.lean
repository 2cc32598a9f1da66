/- Printed by gen.py. -/
import Derived.Test.YtkcgiolledmbnabF1
import Derived.Test.YtkcgiolledmbnabF5
namespace Go.Proofs.Ytkcgiolledmbnab
open Go Go.RowKit
set_option linter.unusedSimpArgs false
set_option linter.unusedVariables false
set_option linter.unnecessarySimpa false
/-! ### backstitch/shape.Into -/
noncomputable def shape_Into.f (x0 : (List Int)) (x1 : (List Int)) : Option Bool :=
  (shape_Spread.f x0 x1).bind fun r23 =>
  if r23.2 = 0 then ((shape_Same.f r23.1 x1).bind fun r38 =>
  some r38)
  else (some false)
set_option maxRecDepth 100000 in
set_option maxHeartbeats 4000000 in
theorem shape_Into.calls (M : List (Option Nat)) (w0 : World) (x0 : (List Int)) (A0 : Option Addr) (n0 c0 : Nat) (e0 : n0 = x0.length) (x1 : (List Int)) (A1 : Option Addr) (n1 c1 : Nat) (e1 : n1 = x1.length) (hm0 : Mem [] M w0 [.sl (Kd.int .i64) A0 c0 x0, .sl (Kd.int .i64) A1 c1 x1] w0) (r : Bool) (H0 : shape_Into.f x0 x1 = some r) :
    Calls Try.prog 74 [.slice A0 n0 c0, .slice A1 n1 c1].toArray w0 (fun x w' => ∃ v, x = .returned v ∧ v = .bool r ∧ Mem [] M w0 [] w') := by
  subst e0
  subst e1
  unfold shape_Into.f at H0
  refine enter (n := 20) Try.func74 rfl rfl (by kernel_rfl) fun a0 (hf0 : Fr 20 a0 [(0, .slice A0 x0.length c0), (1, .slice A1 x1.length c1)]) => ?_
  refine wp_seq ?_
  refine reg [] [0, 1] [(0, .slice A0 x0.length c0), (1, .slice A1 x1.length c1)] [] hf0 (by kernel_rfl) trivial fun a21 hf22 => ?_
  refine thenN ?_
  refine wp_seq ?_
  obtain ⟨r23, hr23, H0⟩ := ob_split H0
  refine inReg ?_
  refine go 2 [] [1, 8, 9] [(1, .slice A1 x1.length c1), (8, .slice A0 x0.length c0), (9, .slice A1 x1.length c1)] [] hf22 (by kernel_rfl) trivial fun a24 hf25 => ?_
  refine listOf hf25 rfl (by kernel_rfl) (aCall (fid := 71) (args := [.slice A0 x0.length c0, .slice A1 x1.length c1]) (d := 10) hf25 (by kernel_rfl) (by kernel_rfl) callable71 (shape_Spread.calls _ _ x0 A0 x0.length c0 rfl x1 A1 x1.length c1 rfl (hm0.give [0, 1] [.sl (Kd.int .i64) A0 c0 x0, .sl (Kd.int .i64) A1 c1 x1] rfl rfl) r23 hr23) ?_)
  rintro _ w28 a29 ⟨A26, c27, rfl, hk31⟩ hf30
  have hm32 := hm0.back hk31
  have hm33 := hm32.seal 0 _ rfl rfl
  refine go 5 [] [1, 5, 6] [(1, .slice A1 x1.length c1), (5, .slice A26 r23.1.length c27), (6, .int .i64 r23.2)] [] hf30 (by kernel_rfl) trivial fun a34 hf35 => ?_
  refine endL rfl ?_
  have hm36 := hm33.sel [0, 2] _ rfl (by kernel_rfl)
  refine thenN ?_
  refine wp_seq ?_
  rcases if_split H0 with ⟨c37, H0⟩ | ⟨c37, H0⟩
  rotate_left
  · refine reg [.bool false] [4] [(4, .bool false)] [.is (((r23.2 : Int) == 0) = false)] hf35 (by kernel_rfl) ⟨(eqF c37), trivial⟩ fun a51 hf52 => ?_
    have hm53 := hm36.sel [] _ rfl (by kernel_rfl)
    refine thenN ?_
    refine wp_ret ?_
    have hm54 : Mem [] M w0 [] w28 := hm53.sel [] _ rfl (by kernel_rfl)
    obtain rfl := Option.some.inj H0
    refine ret [] [.bool false] [] hf52 (by kernel_rfl) trivial ?_
    exact ⟨_, rfl, rfl, hm54⟩
  obtain ⟨r38, hr38, H0⟩ := ob_split H0
  refine inReg ?_
  refine go 5 [.bool true] [15, 16, 17] [(15, .bool true), (16, .slice A26 r23.1.length c27), (17, .slice A1 x1.length c1)] [.is (((r23.2 : Int) == 0) = true)] hf35 (by kernel_rfl) ⟨(eqT c37), trivial⟩ fun a39 hf40 => ?_
  refine listOf hf40 rfl (by kernel_rfl) (aCall (fid := 48) (args := [.slice A26 r23.1.length c27, .slice A1 x1.length c1]) (d := 18) hf40 (by kernel_rfl) (by kernel_rfl) callable48 (shape_Same.calls _ _ r23.1 A26 r23.1.length c27 rfl x1 A1 x1.length c1 rfl (hm36.give [0, 1] [.sl (Kd.int .i64) A26 c27 r23.1, .sl (Kd.int .i64) A1 c1 x1] rfl rfl) r38 hr38) ?_)
  rintro _ w41 a42 ⟨rfl, hk44⟩ hf43
  have hm45 := hm36.still hk44.cum.none
  refine go 2 [] [4] [(4, .bool r38)] [] hf43 (by kernel_rfl) trivial fun a46 hf47 => ?_
  refine endL rfl ?_
  have hm48 := hm45.sel [] _ rfl (by kernel_rfl)
  refine thenN ?_
  refine wp_ret ?_
  have hm49 : Mem [] M w0 [] w41 := hm48.sel [] _ rfl (by kernel_rfl)
  obtain rfl := Option.some.inj H0
  refine ret [] [.bool r38] [] hf47 (by kernel_rfl) trivial ?_
  exact ⟨_, rfl, rfl, hm49⟩

/-! ### (backstitch/real.Real).Plus -/
noncomputable def real_Real_Plus.f (x0 : Nat) (x1 : Nat) : Option Nat :=
  some (fadd x0 x1)
set_option maxRecDepth 100000 in
set_option maxHeartbeats 4000000 in
theorem real_Real_Plus.calls (M : List (Option Nat)) (w0 : World) (x0 : Nat) (b0 : Nat) (h0 : FR b0 x0) (x1 : Nat) (b1 : Nat) (h1 : FR b1 x1) (hm0 : Mem [] M w0 [] w0) (r : Nat) (H0 : real_Real_Plus.f x0 x1 = some r) :
    Calls Try.prog 78 [.float .f64 b0, .float .f64 b1].toArray w0 (fun x w' => ∃ v, x = .returned v ∧ ∃ br0, v = .float .f64 br0 ∧ FR br0 r ∧ Mem [] M w0 [] w') := by
  unfold real_Real_Plus.f at H0
  refine enter (n := 8) Try.func78 rfl rfl (by kernel_rfl) fun a0 (hf0 : Fr 8 a0 [(0, .float .f64 b0), (1, .float .f64 b1)]) => ?_
  refine wp_seq ?_
  refine reg [] [0, 1] [(0, .float .f64 b0), (1, .float .f64 b1)] [] hf0 (by kernel_rfl) trivial fun a21 hf22 => ?_
  refine thenN ?_
  refine wp_seq ?_
  refine inReg ?_
  refine go 2 [] [5, 6] [(5, .float .f64 b0), (6, .float .f64 b1)] [] hf22 (by kernel_rfl) trivial fun a23 hf24 => ?_
  refine listOf hf24 rfl (by kernel_rfl) (aArith (k := 0) (b := b0) (c := b1) (x := x0) (y := x1) (d := 7) hf24 (by kernel_rfl) (by kernel_rfl) h0 h1 ?_)
  intro b25 w26 a27 hb25 hg29 hf28
  replace hb25 : FR b25 (fadd x0 x1) := hb25
  have hm30 := hm0.still hg29
  refine go 1 [] [4] [(4, .float .f64 b25)] [] hf28 (by kernel_rfl) trivial fun a31 hf32 => ?_
  refine endL rfl ?_
  refine thenN ?_
  refine wp_ret ?_
  have hm33 : Mem [] M w0 [] w26 := hm30.sel [] _ rfl (by kernel_rfl)
  obtain rfl := Option.some.inj H0
  refine ret [] [.float .f64 b25] [] hf32 (by kernel_rfl) trivial ?_
  exact ⟨_, rfl, b25, rfl, hb25, hm33⟩

/-! ### backstitch/real.halves -/
noncomputable def real_halves_real_Real_Plus.F : Nat → (List Nat) → Option Nat
  | 0, _ => none
  | k + 1, x0 =>
  if (x0.length : Int) = 1 then (if (0 : Int) ≤ 0 ∧ 0 < (x0.length : Int) then (some (rd x0 0))
  else none)
  else (if 0 ≤ (w64 (Int.tdiv (w64 ((x0.length : Int) + 1)) 2)) ∧ (w64 (Int.tdiv (w64 ((x0.length : Int) + 1)) 2)) ≤ (x0.length : Int) then ((real_halves_real_Real_Plus.F k ((List.take (((w64 (Int.tdiv (w64 ((x0.length : Int) + 1)) 2))).toNat) x0).drop 0)).bind fun r39 =>
  (real_halves_real_Real_Plus.F k ((List.take x0.length x0).drop (((w64 (Int.tdiv (w64 ((x0.length : Int) + 1)) 2))).toNat))).bind fun r40 =>
  (real_Real_Plus.f r39 r40).bind fun r41 =>
  some r41)
  else none)
set_option maxRecDepth 100000 in
set_option maxHeartbeats 4000000 in
theorem real_halves_real_Real_Plus.callsF (k : Nat) : ∀ (M : List (Option Nat)) (w0 : World) (x0 : (List Nat)) (A0 : Option Addr) (n0 c0 : Nat) (e0 : n0 = x0.length) (hm0 : Mem [] M w0 [.sl Kd.float A0 c0 x0] w0) (r : Nat) (H0 : real_halves_real_Real_Plus.F k x0 = some r),
    Calls Try.prog 77 [.slice A0 n0 c0, .func (.func 78) #[] #[]].toArray w0 (fun x w' => ∃ v, x = .returned v ∧ ∃ br0, v = .float .f64 br0 ∧ FR br0 r ∧ Mem [] M w0 [] w') := by
  induction k with
  | zero => intro M w0 x0 A0 n0 c0 e0 hm0 r H0; exact absurd H0 (by simp [real_halves_real_Real_Plus.F])
  | succ k ih =>
  intro M w0 x0 A0 n0 c0 e0 hm0 r H0
  rw [real_halves_real_Real_Plus.F] at H0
  subst e0
  refine enter (n := 28) Try.func77 rfl rfl (by kernel_rfl) fun a0 (hf0 : Fr 28 a0 [(0, .slice A0 x0.length c0), (1, .func (.func 78) #[] #[])]) => ?_
  refine wp_seq ?_
  refine reg [] [0, 1] [(0, .slice A0 x0.length c0), (1, .func (.func 78) #[] #[])] [] hf0 (by kernel_rfl) trivial fun a21 hf22 => ?_
  refine thenN ?_
  refine wp_seq ?_
  refine wp_seq ?_
  rcases if_split H0 with ⟨c23, H0⟩ | ⟨c23, H0⟩
  · refine reg [.bool true] [0, 1, 8] [(0, .slice A0 x0.length c0), (1, .func (.func 78) #[] #[]), (8, .bool true)] [.is ((((x0.length : Int) : Int) == 1) = true)] hf22 (by kernel_rfl) ⟨(eqT c23), trivial⟩ fun a24 hf25 => ?_
    refine thenN ?_
    refine condT hf25 (by kernel_rfl) ?_
    refine wp_seq ?_
    obtain ⟨g26, H0⟩ := if_guard H0
    have q27 := (hm0.slAt 0 rfl).float 0 g26.1 g26.2
    obtain ⟨b28, hb28, kb28⟩ := q27.2
    refine reg [.float .f64 b28] [4] [(4, .float .f64 b28)] [.is (Option.isSome A0 = true), .is ((0 : Int) ≤ 0 ∧ 0 < (x0.length : Int)), .cell ((ad A0).add ((0 : Int).toNat * 1)) (.float .f64 b28)] hf25 (by kernel_rfl) ⟨q27.1, g26, kb28, trivial⟩ fun a29 hf30 => ?_
    have hm31 := hm0.sel [] _ rfl (by kernel_rfl)
    refine thenN ?_
    refine wp_ret ?_
    refine thenR ?_
    have hm32 : Mem [] M w0 [] w0 := hm31.sel [] _ rfl (by kernel_rfl)
    obtain rfl := Option.some.inj H0
    refine ret [] [.float .f64 b28] [] hf30 (by kernel_rfl) trivial ?_
    exact ⟨_, rfl, b28, rfl, hb28, hm32⟩
  refine reg [.bool false] [0, 1, 8] [(0, .slice A0 x0.length c0), (1, .func (.func 78) #[] #[]), (8, .bool false)] [.is ((((x0.length : Int) : Int) == 1) = false)] hf22 (by kernel_rfl) ⟨(eqF c23), trivial⟩ fun a34 hf35 => ?_
  refine thenN ?_
  refine condF hf35 (by kernel_rfl) ?_
  refine wp_skip ?_
  refine thenN ?_
  refine wp_seq ?_
  refine reg [] [0, 1, 5] [(0, .slice A0 x0.length c0), (1, .func (.func 78) #[] #[]), (5, .int .i64 (w64 (Int.tdiv (w64 ((x0.length : Int) + 1)) 2)))] [.is ((2 : Int) ≠ 0)] hf35 (by kernel_rfl) ⟨(okIs (by decide)), trivial⟩ fun a36 hf37 => ?_
  refine thenN ?_
  refine wp_seq ?_
  obtain ⟨g38, H0⟩ := if_guard H0
  obtain ⟨r39, hr39, H0⟩ := ob_split H0
  obtain ⟨r40, hr40, H0⟩ := ob_split H0
  obtain ⟨r41, hr41, H0⟩ := ob_split H0
  refine midReg (fun (a : Act) (w : World) => ∃ (b58 : Nat), Fr 28 a [(4, .float .f64 b58)] ∧ FR b58 r41 ∧ Mem [] M w0 [] w) ?_ ?_
  · refine anyG [] (by kernel_rfl) fun w66 hg67 => ?_
    have hm68 := hm0.still hg67
    have e95 : x0.length = x0.length := rfl
    have e95l : 0 ≤ ((w64 (Int.tdiv (w64 ((x0.length : Int) + 1)) 2))).toNat := by omega
    have e95h : ((w64 (Int.tdiv (w64 ((x0.length : Int) + 1)) 2))).toNat ≤ x0.length := by omega
    have hm96 := hm68.sub 0 rfl e95l (e95 ▸ e95h)
    have e97 : x0.length = x0.length := rfl
    have e97l : ((w64 (Int.tdiv (w64 ((x0.length : Int) + 1)) 2))).toNat ≤ x0.length := by omega
    have e97h : x0.length ≤ x0.length := by omega
    have hm98 := hm96.sub 1 rfl e97l (e97 ▸ e97h)
    refine quiet0 [0, 1, 2, 3, 4, 6, 7, 8, 9] [] [16, 19, 20, 24, 25] #[true, true, true, true, true, false, true, true, true, true, false, false, false] [(16, .func (.func 78) #[] #[]), (19, .slice (sub A0 c0 0 1) (((w64 (Int.tdiv (w64 ((x0.length : Int) + 1)) 2))).toNat - 0) (c0 - 0)), (20, .func (.func 78) #[] #[]), (24, .slice (sub A0 c0 (((w64 (Int.tdiv (w64 ((x0.length : Int) + 1)) 2))).toNat) 1) (x0.length - ((w64 (Int.tdiv (w64 ((x0.length : Int) + 1)) 2))).toNat) (c0 - ((w64 (Int.tdiv (w64 ((x0.length : Int) + 1)) 2))).toNat)), (25, .func (.func 78) #[] #[])] [.is (0 ≤ (w64 (Int.tdiv (w64 ((x0.length : Int) + 1)) 2)) ∧ (w64 (Int.tdiv (w64 ((x0.length : Int) + 1)) 2)) ≤ (c0 : Int)), .is (0 ≤ (w64 (Int.tdiv (w64 ((x0.length : Int) + 1)) 2)) ∧ (w64 (Int.tdiv (w64 ((x0.length : Int) + 1)) 2)) ≤ (x0.length : Int))] 4 rfl (by kernel_rfl) (fun _ _ _ _ _ h => nomatch h.1) hf37 (by kernel_rfl) ⟨(sub_cap rfl (hm68.cpAt 0 rfl) g38), g38, trivial⟩ fun a99 hf100 => ?_
    refine all1 5 (by kernel_rfl) ?_
    refine opOf hf100 rfl (by kernel_rfl) (aCall (fid := 77) (args := [.slice (sub A0 c0 0 1) (((w64 (Int.tdiv (w64 ((x0.length : Int) + 1)) 2))).toNat - 0) (c0 - 0), .func (.func 78) #[] #[]]) (d := 21) hf100 (by kernel_rfl) (by kernel_rfl) callable77 (ih _ _ ((List.take (((w64 (Int.tdiv (w64 ((x0.length : Int) + 1)) 2))).toNat) x0).drop 0) (sub A0 c0 0 1) (((w64 (Int.tdiv (w64 ((x0.length : Int) + 1)) 2))).toNat - 0) (c0 - 0) (len_sub e95 e95l e95h) (hm98.give [1] [.sl Kd.float (sub A0 c0 0 1) (c0 - 0) ((List.take (((w64 (Int.tdiv (w64 ((x0.length : Int) + 1)) 2))).toNat) x0).drop 0)] rfl rfl) r39 hr39) ?_)
    rintro _ w102 a103 ⟨b101, rfl, hb101, hk105⟩ hf104
    refine ⟨.inr (Gr.still hk105.cum.none), ?_⟩
    have hm106 := hm98.still hk105.cum.none
    refine all1 10 (by kernel_rfl) ?_
    refine opOf hf104 rfl (by kernel_rfl) (aCall (fid := 77) (args := [.slice (sub A0 c0 (((w64 (Int.tdiv (w64 ((x0.length : Int) + 1)) 2))).toNat) 1) (x0.length - ((w64 (Int.tdiv (w64 ((x0.length : Int) + 1)) 2))).toNat) (c0 - ((w64 (Int.tdiv (w64 ((x0.length : Int) + 1)) 2))).toNat), .func (.func 78) #[] #[]]) (d := 26) hf104 (by kernel_rfl) (by kernel_rfl) callable77 (ih _ _ ((List.take x0.length x0).drop (((w64 (Int.tdiv (w64 ((x0.length : Int) + 1)) 2))).toNat)) (sub A0 c0 (((w64 (Int.tdiv (w64 ((x0.length : Int) + 1)) 2))).toNat) 1) (x0.length - ((w64 (Int.tdiv (w64 ((x0.length : Int) + 1)) 2))).toNat) (c0 - ((w64 (Int.tdiv (w64 ((x0.length : Int) + 1)) 2))).toNat) (len_sub e97 e97l e97h) (hm106.give [0] [.sl Kd.float (sub A0 c0 (((w64 (Int.tdiv (w64 ((x0.length : Int) + 1)) 2))).toNat) 1) (c0 - ((w64 (Int.tdiv (w64 ((x0.length : Int) + 1)) 2))).toNat) ((List.take x0.length x0).drop (((w64 (Int.tdiv (w64 ((x0.length : Int) + 1)) 2))).toNat))] rfl rfl) r40 hr40) ?_)
    rintro _ w108 a109 ⟨b107, rfl, hb107, hk111⟩ hf110
    refine ⟨.inr (Gr.still hk111.cum.none), ?_⟩
    have hm112 := hm106.still hk111.cum.none
    refine all1 11 (by kernel_rfl) ?_
    refine opOf hf110 rfl (by kernel_rfl) (aCall (fid := 78) (args := [.float .f64 b101, .float .f64 b107]) (d := 27) hf110 (by kernel_rfl) (by kernel_rfl) callable78 (real_Real_Plus.calls _ _ r39 b101 hb101 r40 b107 hb107 (hm112.give [] [] rfl rfl) r41 hr41) ?_)
    rintro _ w114 a115 ⟨b113, rfl, hb113, hk117⟩ hf116
    refine ⟨.inr (Gr.still hk117.cum.none), ?_⟩
    have hm118 := hm112.still hk117.cum.none
    refine quiet0 [12] [] [4] #[true, true, true, true, true, true, true, true, true, true, true, true, true] [(4, .float .f64 b113)] [] 0 rfl (by kernel_rfl) (fun _ _ _ _ _ h => nomatch h.1) hf116 (by kernel_rfl) trivial fun a119 hf120 => ?_
    refine allDone (by kernel_rfl) ⟨rfl, b113, hf120.sel (l := [4]) (by kernel_rfl), hb113, hm118.sel [] _ rfl (by kernel_rfl)⟩
  rintro a121 w122 ⟨b58, hf123, hb58, hm124⟩
  refine thenN ?_
  refine wp_ret ?_
  have hm125 : Mem [] M w0 [] w122 := hm124.sel [] _ rfl (by kernel_rfl)
  obtain rfl := Option.some.inj H0
  refine ret [] [.float .f64 b58] [] hf123 (by kernel_rfl) trivial ?_
  exact ⟨_, rfl, b58, rfl, hb58, hm125⟩
noncomputable def real_halves_real_Real_Plus.f (x0 : (List Nat)) : Option Nat := recOf (fun k => real_halves_real_Real_Plus.F k x0)
theorem real_halves_real_Real_Plus.calls (M : List (Option Nat)) (w0 : World) (x0 : (List Nat)) (A0 : Option Addr) (n0 c0 : Nat) (e0 : n0 = x0.length) (hm0 : Mem [] M w0 [.sl Kd.float A0 c0 x0] w0) (r : Nat) (H0 : real_halves_real_Real_Plus.f x0 = some r) :
    Calls Try.prog 77 [.slice A0 n0 c0, .func (.func 78) #[] #[]].toArray w0 (fun x w' => ∃ v, x = .returned v ∧ ∃ br0, v = .float .f64 br0 ∧ FR br0 r ∧ Mem [] M w0 [] w') := by
  obtain ⟨k, hk⟩ := recOf_some H0
  exact real_halves_real_Real_Plus.callsF k M w0 x0 A0 n0 c0 e0 hm0 r hk

/-! ### backstitch/real.Fold -/
noncomputable def real_Fold.f (x0 : (List Nat)) : Option Nat :=
  if (x0.length : Int) = 0 then (some 0)
  else ((real_halves_real_Real_Plus.f x0).bind fun r33 =>
  some r33)
set_option maxRecDepth 100000 in
set_option maxHeartbeats 4000000 in
theorem real_Fold.calls (M : List (Option Nat)) (w0 : World) (x0 : (List Nat)) (A0 : Option Addr) (n0 c0 : Nat) (e0 : n0 = x0.length) (hm0 : Mem [] M w0 [.sl Kd.float A0 c0 x0] w0) (r : Nat) (H0 : real_Fold.f x0 = some r) :
    Calls Try.prog 50 [.slice A0 n0 c0].toArray w0 (fun x w' => ∃ v, x = .returned v ∧ ∃ br0, v = .float .f64 br0 ∧ FR br0 r ∧ Mem [] M w0 [] w') := by
  subst e0
  unfold real_Fold.f at H0
  refine enter (n := 8) Try.func50 rfl rfl (by kernel_rfl) fun a0 (hf0 : Fr 8 a0 [(0, .slice A0 x0.length c0)]) => ?_
  refine wp_seq ?_
  refine reg [] [0] [(0, .slice A0 x0.length c0)] [] hf0 (by kernel_rfl) trivial fun a21 hf22 => ?_
  refine thenN ?_
  refine wp_seq ?_
  refine wp_seq ?_
  rcases if_split H0 with ⟨c23, H0⟩ | ⟨c23, H0⟩
  · refine reg [.bool true] [0, 5] [(0, .slice A0 x0.length c0), (5, .bool true)] [.is ((((x0.length : Int) : Int) == 0) = true)] hf22 (by kernel_rfl) ⟨(eqT c23), trivial⟩ fun a24 hf25 => ?_
    refine thenN ?_
    refine condT hf25 (by kernel_rfl) ?_
    refine wp_seq ?_
    refine reg [] [2] [(2, .float .f64 0)] [] hf25 (by kernel_rfl) trivial fun a26 hf27 => ?_
    have hm28 := hm0.sel [] _ rfl (by kernel_rfl)
    refine thenN ?_
    refine wp_ret ?_
    refine thenR ?_
    have hm29 : Mem [] M w0 [] w0 := hm28.sel [] _ rfl (by kernel_rfl)
    obtain rfl := Option.some.inj H0
    refine ret [] [.float .f64 0] [] hf27 (by kernel_rfl) trivial ?_
    exact ⟨_, rfl, 0, rfl, (FR.lit (by kernel_rfl) (by kernel_rfl)), hm29⟩
  refine reg [.bool false] [0, 5] [(0, .slice A0 x0.length c0), (5, .bool false)] [.is ((((x0.length : Int) : Int) == 0) = false)] hf22 (by kernel_rfl) ⟨(eqF c23), trivial⟩ fun a31 hf32 => ?_
  refine thenN ?_
  refine condF hf32 (by kernel_rfl) ?_
  refine wp_skip ?_
  refine thenN ?_
  refine wp_seq ?_
  obtain ⟨r33, hr33, H0⟩ := ob_split H0
  refine inReg ?_
  refine go 1 [] [6] [(6, .slice A0 x0.length c0)] [] hf32 (by kernel_rfl) trivial fun a34 hf35 => ?_
  refine listOf hf35 rfl (by kernel_rfl) (aCall (fid := 77) (args := [.slice A0 x0.length c0, .func (.func 78) #[] #[]]) (d := 7) hf35 (by kernel_rfl) (by kernel_rfl) callable77 (real_halves_real_Real_Plus.calls _ _ x0 A0 x0.length c0 rfl (hm0.give [0] [.sl Kd.float A0 c0 x0] rfl rfl) r33 hr33) ?_)
  rintro _ w37 a38 ⟨b36, rfl, hb36, hk40⟩ hf39
  have hm41 := hm0.still hk40.cum.none
  refine go 1 [] [2] [(2, .float .f64 b36)] [] hf39 (by kernel_rfl) trivial fun a42 hf43 => ?_
  refine endL rfl ?_
  have hm44 := hm41.sel [] _ rfl (by kernel_rfl)
  refine thenN ?_
  refine wp_ret ?_
  have hm45 : Mem [] M w0 [] w37 := hm44.sel [] _ rfl (by kernel_rfl)
  obtain rfl := Option.some.inj H0
  refine ret [] [.float .f64 b36] [] hf43 (by kernel_rfl) trivial ?_
  exact ⟨_, rfl, b36, rfl, hb36, hm45⟩
end Go.Proofs.Ytkcgiolledmbnab
