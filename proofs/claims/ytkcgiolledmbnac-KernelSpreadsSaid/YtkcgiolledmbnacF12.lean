/- Printed by gen.py. -/
import Derived.Test.YtkcgiolledmbnacK
namespace Go.Proofs.Ytkcgiolledmbnac
open Go Go.RowKit
set_option linter.unusedSimpArgs false
set_option linter.unusedVariables false
set_option linter.unnecessarySimpa false
/-! ### backstitch/backstitchref1.Fold -/
noncomputable def ref1_Fold.F : Nat → (List Nat) → Option Nat
  | 0, _ => none
  | k + 1, x0 =>
  if (x0.length : Int) = 0 then (some 0)
  else (if (x0.length : Int) = 1 then (if (0 : Int) ≤ 0 ∧ 0 < (x0.length : Int) then (some (rd x0 0))
  else none)
  else (if 0 ≤ (w64 (Int.tdiv (w64 ((x0.length : Int) + 1)) 2)) ∧ (w64 (Int.tdiv (w64 ((x0.length : Int) + 1)) 2)) ≤ (x0.length : Int) then ((ref1_Fold.F k ((List.take (((w64 (Int.tdiv (w64 ((x0.length : Int) + 1)) 2))).toNat) x0).drop 0)).bind fun r51 =>
  (ref1_Fold.F k ((List.take x0.length x0).drop (((w64 (Int.tdiv (w64 ((x0.length : Int) + 1)) 2))).toNat))).bind fun r52 =>
  some (fadd r51 r52))
  else none))
set_option maxRecDepth 100000 in
set_option maxHeartbeats 4000000 in
theorem ref1_Fold.callsF (k : Nat) : ∀ (M : List (Option Nat)) (w0 : World) (x0 : (List Nat)) (A0 : Option Addr) (n0 c0 : Nat) (e0 : n0 = x0.length) (hm0 : Mem [] M w0 [.sl Kd.float A0 c0 x0] w0) (r : Nat) (H0 : ref1_Fold.F k x0 = some r),
    Calls Try.prog 40 [.slice A0 n0 c0].toArray w0 (fun x w' => ∃ v, x = .returned v ∧ ∃ br0, v = .float .f64 br0 ∧ FR br0 r ∧ Mem [] M w0 [] w') := by
  induction k with
  | zero => intro M w0 x0 A0 n0 c0 e0 hm0 r H0; exact absurd H0 (by simp [ref1_Fold.F])
  | succ k ih =>
  intro M w0 x0 A0 n0 c0 e0 hm0 r H0
  rw [ref1_Fold.F] at H0
  subst e0
  refine enter (n := 26) Try.func40 rfl rfl (by kernel_rfl) fun a0 (hf0 : Fr 26 a0 [(0, .slice A0 x0.length c0)]) => ?_
  refine wp_seq ?_
  refine reg [] [0] [(0, .slice A0 x0.length c0)] [] hf0 (by kernel_rfl) trivial fun a21 hf22 => ?_
  refine thenN ?_
  refine wp_seq ?_
  refine wp_seq ?_
  refine reg [] [0, 5] [(0, .slice A0 x0.length c0), (5, .int .i64 (x0.length : Int))] [] hf22 (by kernel_rfl) trivial fun a23 hf24 => ?_
  refine thenN ?_
  refine wp_block ?_
  refine wp_seq ?_
  rcases if_split H0 with ⟨c25, H0⟩ | ⟨c25, H0⟩
  · refine reg [.bool true] [0, 5, 6] [(0, .slice A0 x0.length c0), (5, .int .i64 (x0.length : Int)), (6, .bool true)] [.is ((((x0.length : Int) : Int) == 0) = true)] hf24 (by kernel_rfl) ⟨(eqT c25), trivial⟩ fun a26 hf27 => ?_
    refine thenN ?_
    refine condT hf27 (by kernel_rfl) ?_
    refine wp_seq ?_
    refine reg [] [2] [(2, .float .f64 0)] [] hf27 (by kernel_rfl) trivial fun a28 hf29 => ?_
    have hm30 := hm0.sel [] _ rfl (by kernel_rfl)
    refine thenN ?_
    refine wp_ret ?_
    refine blkR ?_
    refine thenR ?_
    have hm31 : Mem [] M w0 [] w0 := hm30.sel [] _ rfl (by kernel_rfl)
    obtain rfl := Option.some.inj H0
    refine ret [] [.float .f64 0] [] hf29 (by kernel_rfl) trivial ?_
    exact ⟨_, rfl, 0, rfl, (FR.lit (by kernel_rfl) (by kernel_rfl)), hm31⟩
  refine reg [.bool false] [0, 5, 6] [(0, .slice A0 x0.length c0), (5, .int .i64 (x0.length : Int)), (6, .bool false)] [.is ((((x0.length : Int) : Int) == 0) = false)] hf24 (by kernel_rfl) ⟨(eqF c25), trivial⟩ fun a33 hf34 => ?_
  refine thenN ?_
  refine condF hf34 (by kernel_rfl) ?_
  refine wp_seq ?_
  rcases if_split H0 with ⟨c35, H0⟩ | ⟨c35, H0⟩
  · refine reg [.bool true] [0, 8] [(0, .slice A0 x0.length c0), (8, .bool true)] [.is ((((x0.length : Int) : Int) == 1) = true)] hf34 (by kernel_rfl) ⟨(eqT c35), trivial⟩ fun a36 hf37 => ?_
    refine thenN ?_
    refine condT hf37 (by kernel_rfl) ?_
    refine wp_seq ?_
    obtain ⟨g38, H0⟩ := if_guard H0
    have q39 := (hm0.slAt 0 rfl).float 0 g38.1 g38.2
    obtain ⟨b40, hb40, kb40⟩ := q39.2
    refine reg [.float .f64 b40] [2] [(2, .float .f64 b40)] [.is (Option.isSome A0 = true), .is ((0 : Int) ≤ 0 ∧ 0 < (x0.length : Int)), .cell ((ad A0).add ((0 : Int).toNat * 1)) (.float .f64 b40)] hf37 (by kernel_rfl) ⟨q39.1, g38, kb40, trivial⟩ fun a41 hf42 => ?_
    have hm43 := hm0.sel [] _ rfl (by kernel_rfl)
    refine thenN ?_
    refine wp_ret ?_
    refine blkR ?_
    refine thenR ?_
    have hm44 : Mem [] M w0 [] w0 := hm43.sel [] _ rfl (by kernel_rfl)
    obtain rfl := Option.some.inj H0
    refine ret [] [.float .f64 b40] [] hf42 (by kernel_rfl) trivial ?_
    exact ⟨_, rfl, b40, rfl, hb40, hm44⟩
  refine reg [.bool false] [0, 8] [(0, .slice A0 x0.length c0), (8, .bool false)] [.is ((((x0.length : Int) : Int) == 1) = false)] hf34 (by kernel_rfl) ⟨(eqF c35), trivial⟩ fun a46 hf47 => ?_
  refine thenN ?_
  refine condF hf47 (by kernel_rfl) ?_
  refine wp_skip ?_
  refine blkN ?_
  refine thenN ?_
  refine wp_seq ?_
  refine reg [] [0, 3] [(0, .slice A0 x0.length c0), (3, .int .i64 (w64 (Int.tdiv (w64 ((x0.length : Int) + 1)) 2)))] [.is ((2 : Int) ≠ 0)] hf47 (by kernel_rfl) ⟨(okIs (by decide)), trivial⟩ fun a48 hf49 => ?_
  refine thenN ?_
  refine wp_seq ?_
  obtain ⟨g50, H0⟩ := if_guard H0
  obtain ⟨r51, hr51, H0⟩ := ob_split H0
  obtain ⟨r52, hr52, H0⟩ := ob_split H0
  refine midReg (fun (a : Act) (w : World) => ∃ (b70 : Nat), Fr 26 a [(2, .float .f64 b70)] ∧ FR b70 (fadd r51 r52) ∧ Mem [] M w0 [] w) ?_ ?_
  · refine anyG [] (by kernel_rfl) fun w77 hg78 => ?_
    have hm79 := hm0.still hg78
    have e106 : x0.length = x0.length := rfl
    have e106l : 0 ≤ ((w64 (Int.tdiv (w64 ((x0.length : Int) + 1)) 2))).toNat := by omega
    have e106h : ((w64 (Int.tdiv (w64 ((x0.length : Int) + 1)) 2))).toNat ≤ x0.length := by omega
    have hm107 := hm79.sub 0 rfl e106l (e106 ▸ e106h)
    have e108 : x0.length = x0.length := rfl
    have e108l : ((w64 (Int.tdiv (w64 ((x0.length : Int) + 1)) 2))).toNat ≤ x0.length := by omega
    have e108h : x0.length ≤ x0.length := by omega
    have hm109 := hm107.sub 1 rfl e108l (e108 ▸ e108h)
    refine quiet0 [0, 1, 2, 4, 5, 6] [] [19, 23] #[true, true, true, false, true, true, true, false, false, false] [(19, .slice (sub A0 c0 0 1) (((w64 (Int.tdiv (w64 ((x0.length : Int) + 1)) 2))).toNat - 0) (c0 - 0)), (23, .slice (sub A0 c0 (((w64 (Int.tdiv (w64 ((x0.length : Int) + 1)) 2))).toNat) 1) (x0.length - ((w64 (Int.tdiv (w64 ((x0.length : Int) + 1)) 2))).toNat) (c0 - ((w64 (Int.tdiv (w64 ((x0.length : Int) + 1)) 2))).toNat))] [.is (0 ≤ (w64 (Int.tdiv (w64 ((x0.length : Int) + 1)) 2)) ∧ (w64 (Int.tdiv (w64 ((x0.length : Int) + 1)) 2)) ≤ (c0 : Int)), .is (0 ≤ (w64 (Int.tdiv (w64 ((x0.length : Int) + 1)) 2)) ∧ (w64 (Int.tdiv (w64 ((x0.length : Int) + 1)) 2)) ≤ (x0.length : Int))] 4 rfl (by kernel_rfl) (fun _ _ _ _ _ h => nomatch h.1) hf49 (by kernel_rfl) ⟨(sub_cap rfl (hm79.cpAt 0 rfl) g50), g50, trivial⟩ fun a110 hf111 => ?_
    refine all1 3 (by kernel_rfl) ?_
    refine opOf hf111 rfl (by kernel_rfl) (aCall (fid := 40) (args := [.slice (sub A0 c0 0 1) (((w64 (Int.tdiv (w64 ((x0.length : Int) + 1)) 2))).toNat - 0) (c0 - 0)]) (d := 20) hf111 (by kernel_rfl) (by kernel_rfl) callable40 (ih _ _ ((List.take (((w64 (Int.tdiv (w64 ((x0.length : Int) + 1)) 2))).toNat) x0).drop 0) (sub A0 c0 0 1) (((w64 (Int.tdiv (w64 ((x0.length : Int) + 1)) 2))).toNat - 0) (c0 - 0) (len_sub e106 e106l e106h) (hm109.give [1] [.sl Kd.float (sub A0 c0 0 1) (c0 - 0) ((List.take (((w64 (Int.tdiv (w64 ((x0.length : Int) + 1)) 2))).toNat) x0).drop 0)] rfl rfl) r51 hr51) ?_)
    rintro _ w113 a114 ⟨b112, rfl, hb112, hk116⟩ hf115
    refine ⟨.inr (Gr.still hk116.cum.none), ?_⟩
    have hm117 := hm109.still hk116.cum.none
    refine all1 7 (by kernel_rfl) ?_
    refine opOf hf115 rfl (by kernel_rfl) (aCall (fid := 40) (args := [.slice (sub A0 c0 (((w64 (Int.tdiv (w64 ((x0.length : Int) + 1)) 2))).toNat) 1) (x0.length - ((w64 (Int.tdiv (w64 ((x0.length : Int) + 1)) 2))).toNat) (c0 - ((w64 (Int.tdiv (w64 ((x0.length : Int) + 1)) 2))).toNat)]) (d := 24) hf115 (by kernel_rfl) (by kernel_rfl) callable40 (ih _ _ ((List.take x0.length x0).drop (((w64 (Int.tdiv (w64 ((x0.length : Int) + 1)) 2))).toNat)) (sub A0 c0 (((w64 (Int.tdiv (w64 ((x0.length : Int) + 1)) 2))).toNat) 1) (x0.length - ((w64 (Int.tdiv (w64 ((x0.length : Int) + 1)) 2))).toNat) (c0 - ((w64 (Int.tdiv (w64 ((x0.length : Int) + 1)) 2))).toNat) (len_sub e108 e108l e108h) (hm117.give [0] [.sl Kd.float (sub A0 c0 (((w64 (Int.tdiv (w64 ((x0.length : Int) + 1)) 2))).toNat) 1) (c0 - ((w64 (Int.tdiv (w64 ((x0.length : Int) + 1)) 2))).toNat) ((List.take x0.length x0).drop (((w64 (Int.tdiv (w64 ((x0.length : Int) + 1)) 2))).toNat))] rfl rfl) r52 hr52) ?_)
    rintro _ w119 a120 ⟨b118, rfl, hb118, hk122⟩ hf121
    refine ⟨.inr (Gr.still hk122.cum.none), ?_⟩
    have hm123 := hm117.still hk122.cum.none
    refine all1 8 (by kernel_rfl) ?_
    refine opOf hf121 rfl (by kernel_rfl) (aArith (k := 0) (b := b112) (c := b118) (x := r51) (y := r52) (d := 25) hf121 (by kernel_rfl) (by kernel_rfl) hb112 hb118 ?_)
    intro b124 w125 a126 hb124 hg128 hf127
    refine ⟨.inr (Gr.still hg128), ?_⟩
    replace hb124 : FR b124 (fadd r51 r52) := hb124
    have hm129 := hm123.still hg128
    refine quiet0 [9] [] [2] #[true, true, true, true, true, true, true, true, true, true] [(2, .float .f64 b124)] [] 0 rfl (by kernel_rfl) (fun _ _ _ _ _ h => nomatch h.1) hf127 (by kernel_rfl) trivial fun a130 hf131 => ?_
    refine allDone (by kernel_rfl) ⟨rfl, b124, hf131.sel (l := [2]) (by kernel_rfl), hb124, hm129.sel [] _ rfl (by kernel_rfl)⟩
  rintro a132 w133 ⟨b70, hf134, hb70, hm135⟩
  refine thenN ?_
  refine wp_ret ?_
  have hm136 : Mem [] M w0 [] w133 := hm135.sel [] _ rfl (by kernel_rfl)
  obtain rfl := Option.some.inj H0
  refine ret [] [.float .f64 b70] [] hf134 (by kernel_rfl) trivial ?_
  exact ⟨_, rfl, b70, rfl, hb70, hm136⟩
noncomputable def ref1_Fold.f (x0 : (List Nat)) : Option Nat := recOf (fun k => ref1_Fold.F k x0)
theorem ref1_Fold.calls (M : List (Option Nat)) (w0 : World) (x0 : (List Nat)) (A0 : Option Addr) (n0 c0 : Nat) (e0 : n0 = x0.length) (hm0 : Mem [] M w0 [.sl Kd.float A0 c0 x0] w0) (r : Nat) (H0 : ref1_Fold.f x0 = some r) :
    Calls Try.prog 40 [.slice A0 n0 c0].toArray w0 (fun x w' => ∃ v, x = .returned v ∧ ∃ br0, v = .float .f64 br0 ∧ FR br0 r ∧ Mem [] M w0 [] w') := by
  obtain ⟨k, hk⟩ := recOf_some H0
  exact ref1_Fold.callsF k M w0 x0 A0 n0 c0 e0 hm0 r hk
end Go.Proofs.Ytkcgiolledmbnac
