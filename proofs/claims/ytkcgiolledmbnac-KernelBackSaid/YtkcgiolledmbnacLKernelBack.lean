/- Printed by gen.py. -/
import Derived.Test.YtkcgiolledmbnacF5
import Derived.Test.YtkcgiolledmbnacF6
import Derived.Test.YtkcgiolledmbnacF7
namespace Go.Proofs.Ytkcgiolledmbnac
open Go Go.RowKit
set_option linter.unusedSimpArgs false
set_option linter.unusedVariables false
set_option linter.unnecessarySimpa false
/-! ### backstitch/backstitchlaw4.KernelBack -/
noncomputable def law4_KernelBack.l0 (r50 : (Int × Int)) (x0 : (List Int)) (s130 : (Int × (List Nat))) : Step (Int × (List Nat)) (Int × (List Nat)) :=
  if s130.1 < r50.1 then (if s130.1 < (x0.length : Int) then (if 0 ≤ s130.1 ∧ s130.1 < (x0.length : Int) then (if s130.2.length + 1 ≤ 549755813888 then (.next ((w64 (s130.1 + 1)), (s130.2 ++ ([(ofInt (rd x0 s130.1))] : List Nat))))
  else .bad)
  else .bad)
  else (if s130.2.length + 1 ≤ 549755813888 then (.next ((w64 (s130.1 + 1)), (s130.2 ++ ([0] : List Nat))))
  else .bad))
  else (.done (s130.1, s130.2))
noncomputable def law4_KernelBack.l1 (r50 : (Int × Int)) (r251 : (Tensor × Int)) (r133 : (Int × (List Nat))) (x2 : Int) (s289 : Int) : Step Int (Out2 Int Bool) :=
  if s289 < r50.1 then (if 0 ≤ s289 ∧ s289 < (r251.1.Data.length : Int) then (if 0 ≤ s289 ∧ s289 < (r133.2.length : Int) then (if (fne (rd r251.1.Data s289) (fmul (ofInt (w64 (1 + (Int.tmod (w64 (x2)) 5)))) (rd r133.2 s289))) = true then (.done (.ret false))
  else (.next (w64 (s289 + 1))))
  else .bad)
  else .bad)
  else (.done (.go s289))
noncomputable def law4_KernelBack.f (x0 : (List Int)) (x1 : (List Int)) (x2 : Int) : Option Bool :=
  (law4_awake.f).bind fun r23 =>
  if r23 = true then (if 300 < (x0.length : Int) then (some true)
  else (if 40 < (x1.length : Int) then (some true)
  else ((ref1_Size.f x1).bind fun r50 =>
  if 1 + x1.length ≤ 549755813888 then ((ref1_Size.f (([(w64 (1 + (Int.tmod (w64 (x2)) 5)))] : List Int) ++ x1)).bind fun r88 =>
  if r50.2 = 0 then (if r88.2 = 0 then (if 300 < r50.1 then (some true)
  else ((loop (law4_KernelBack.l0 r50 x0) (0, ([] : (List Nat)))).bind fun r133 =>
  (kernel_Spread.f (⟨x1, r133.2⟩ : Tensor) (([(w64 (1 + (Int.tmod (w64 (x2)) 5)))] : List Int) ++ x1)).bind fun r219 =>
  (kernel_Gather.f r219.1 x1).bind fun r251 =>
  if r219.2 = 0 then (if r251.2 = 0 then (if (r219.1.Data.length : Int) = r88.1 then (if (r251.1.Data.length : Int) = r50.1 then ((loop (law4_KernelBack.l1 r50 r251 r133 x2) 0).bind fun r290 =>
  r290.on (fun yr290 =>
  some true) (fun y => some y))
  else (some false))
  else (some false))
  else (some false))
  else (some false)))
  else (some true))
  else (some true))
  else none)))
  else (some false)
set_option maxRecDepth 100000 in
set_option maxHeartbeats 4000000 in
theorem law4_KernelBack.calls (M : List (Option Nat)) (w0 : World) (x0 : (List Int)) (A0 : Option Addr) (n0 c0 : Nat) (e0 : n0 = x0.length) (x1 : (List Int)) (A1 : Option Addr) (n1 c1 : Nat) (e1 : n1 = x1.length) (x2 : Int) (hm0 : Mem [] M w0 [.sl (Kd.int .i8) A0 c0 x0, .sl (Kd.int .i64) A1 c1 x1] w0) (r : Bool) (H0 : law4_KernelBack.f x0 x1 x2 = some r) :
    Calls Try.prog 4 [.slice A0 n0 c0, .slice A1 n1 c1, .int .u8 x2].toArray w0 (fun x w' => ∃ v, x = .returned v ∧ v = .bool r ∧ Mem [] M w0 [] w') := by
  subst e0
  subst e1
  unfold law4_KernelBack.f at H0
  refine enter (n := 132) Try.func4 rfl rfl (by kernel_rfl) fun a0 (hf0 : Fr 132 a0 [(0, .slice A0 x0.length c0), (1, .slice A1 x1.length c1), (2, .int .u8 x2)]) => ?_
  refine wp_seq ?_
  refine reg [] [0, 1, 2] [(0, .slice A0 x0.length c0), (1, .slice A1 x1.length c1), (2, .int .u8 x2)] [] hf0 (by kernel_rfl) trivial fun a21 hf22 => ?_
  refine thenN ?_
  refine wp_seq ?_
  refine wp_seq ?_
  obtain ⟨r23, hr23, H0⟩ := ob_split H0
  rcases ifb_split H0 with ⟨c24, H0⟩ | ⟨c24, H0⟩
  rotate_left
  · refine inReg ?_
    refine listOf hf22 rfl (by kernel_rfl) (aCall (fid := 14) (args := []) (d := 21) hf22 (by kernel_rfl) (by kernel_rfl) callable14 (law4_awake.calls _ _  (hm0.give [] [] rfl rfl) r23 hr23) ?_)
    rintro _ w456 a457 ⟨rfl, hk459⟩ hf458
    have hm460 := hm0.still hk459.cum.none
    rw [c24] at hf458
    refine go 1 [] [0, 1, 2, 22] [(0, .slice A0 x0.length c0), (1, .slice A1 x1.length c1), (2, .int .u8 x2), (22, .bool true)] [] hf458 (by kernel_rfl) trivial fun a461 hf462 => ?_
    refine endL rfl ?_
    refine thenN ?_
    refine condT hf462 (by kernel_rfl) ?_
    refine wp_seq ?_
    refine reg [] [6] [(6, .bool false)] [] hf462 (by kernel_rfl) trivial fun a463 hf464 => ?_
    have hm465 := hm460.sel [] _ rfl (by kernel_rfl)
    refine thenN ?_
    refine wp_ret ?_
    refine thenR ?_
    have hm466 : Mem [] M w0 [] w456 := hm465.sel [] _ rfl (by kernel_rfl)
    obtain rfl := Option.some.inj H0
    refine ret [] [.bool false] [] hf464 (by kernel_rfl) trivial ?_
    exact ⟨_, rfl, rfl, hm466⟩
  refine inReg ?_
  refine listOf hf22 rfl (by kernel_rfl) (aCall (fid := 14) (args := []) (d := 21) hf22 (by kernel_rfl) (by kernel_rfl) callable14 (law4_awake.calls _ _  (hm0.give [] [] rfl rfl) r23 hr23) ?_)
  rintro _ w25 a26 ⟨rfl, hk28⟩ hf27
  have hm29 := hm0.still hk28.cum.none
  rw [c24] at hf27
  refine go 1 [] [0, 1, 2, 22] [(0, .slice A0 x0.length c0), (1, .slice A1 x1.length c1), (2, .int .u8 x2), (22, .bool false)] [] hf27 (by kernel_rfl) trivial fun a30 hf31 => ?_
  refine endL rfl ?_
  refine thenN ?_
  refine condF hf31 (by kernel_rfl) ?_
  refine wp_skip ?_
  refine thenN ?_
  refine wp_seq ?_
  refine wp_seq ?_
  rcases if_split H0 with ⟨c32, H0⟩ | ⟨c32, H0⟩
  · refine reg [.bool true] [0, 1, 2, 30] [(0, .slice A0 x0.length c0), (1, .slice A1 x1.length c1), (2, .int .u8 x2), (30, .bool true)] [.is (decide (300 < (x0.length : Int)) = true)] hf31 (by kernel_rfl) ⟨(decide_eq_true c32), trivial⟩ fun a33 hf34 => ?_
    refine thenN ?_
    refine condT hf34 (by kernel_rfl) ?_
    refine wp_seq ?_
    refine reg [] [6] [(6, .bool true)] [] hf34 (by kernel_rfl) trivial fun a35 hf36 => ?_
    have hm37 := hm29.sel [] _ rfl (by kernel_rfl)
    refine thenN ?_
    refine wp_ret ?_
    refine thenR ?_
    have hm38 : Mem [] M w0 [] w25 := hm37.sel [] _ rfl (by kernel_rfl)
    obtain rfl := Option.some.inj H0
    refine ret [] [.bool true] [] hf36 (by kernel_rfl) trivial ?_
    exact ⟨_, rfl, rfl, hm38⟩
  rcases if_split H0 with ⟨c40, H0⟩ | ⟨c40, H0⟩
  · refine reg [.bool false, .bool true] [0, 1, 2, 30] [(0, .slice A0 x0.length c0), (1, .slice A1 x1.length c1), (2, .int .u8 x2), (30, .bool true)] [.is (decide (300 < (x0.length : Int)) = false), .is (decide (40 < (x1.length : Int)) = true)] hf31 (by kernel_rfl) ⟨(decide_eq_false c32), (decide_eq_true c40), trivial⟩ fun a41 hf42 => ?_
    refine thenN ?_
    refine condT hf42 (by kernel_rfl) ?_
    refine wp_seq ?_
    refine reg [] [6] [(6, .bool true)] [] hf42 (by kernel_rfl) trivial fun a43 hf44 => ?_
    have hm45 := hm29.sel [] _ rfl (by kernel_rfl)
    refine thenN ?_
    refine wp_ret ?_
    refine thenR ?_
    have hm46 : Mem [] M w0 [] w25 := hm45.sel [] _ rfl (by kernel_rfl)
    obtain rfl := Option.some.inj H0
    refine ret [] [.bool true] [] hf44 (by kernel_rfl) trivial ?_
    exact ⟨_, rfl, rfl, hm46⟩
  refine reg [.bool false, .bool false] [0, 1, 2, 30] [(0, .slice A0 x0.length c0), (1, .slice A1 x1.length c1), (2, .int .u8 x2), (30, .bool false)] [.is (decide (300 < (x0.length : Int)) = false), .is (decide (40 < (x1.length : Int)) = false)] hf31 (by kernel_rfl) ⟨(decide_eq_false c32), (decide_eq_false c40), trivial⟩ fun a48 hf49 => ?_
  refine thenN ?_
  refine condF hf49 (by kernel_rfl) ?_
  refine wp_skip ?_
  refine thenN ?_
  refine wp_seq ?_
  obtain ⟨r50, hr50, H0⟩ := ob_split H0
  refine inReg ?_
  refine go 1 [] [0, 1, 2, 32] [(0, .slice A0 x0.length c0), (1, .slice A1 x1.length c1), (2, .int .u8 x2), (32, .slice A1 x1.length c1)] [] hf49 (by kernel_rfl) trivial fun a51 hf52 => ?_
  refine listOf hf52 rfl (by kernel_rfl) (aCall (fid := 15) (args := [.slice A1 x1.length c1]) (d := 33) hf52 (by kernel_rfl) (by kernel_rfl) callable15 (ref1_Size.calls _ _ x1 A1 x1.length c1 rfl (hm29.give [1] [.sl (Kd.int .i64) A1 c1 x1] rfl rfl) r50 hr50) ?_)
  rintro _ w53 a54 ⟨rfl, hk56⟩ hf55
  have hm57 := hm29.still hk56.cum.none
  refine go 5 [] [0, 1, 2, 7, 8] [(0, .slice A0 x0.length c0), (1, .slice A1 x1.length c1), (2, .int .u8 x2), (7, .int .i64 r50.1), (8, .int .i64 r50.2)] [] hf55 (by kernel_rfl) trivial fun a58 hf59 => ?_
  refine endL rfl ?_
  refine thenN ?_
  refine wp_seq ?_
  refine reg [] [0, 1, 7, 8, 9] [(0, .slice A0 x0.length c0), (1, .slice A1 x1.length c1), (7, .int .i64 r50.1), (8, .int .i64 r50.2), (9, .int .i64 (w64 (1 + (Int.tmod (w64 (x2)) 5))))] [.is ((5 : Int) ≠ 0)] hf59 (by kernel_rfl) ⟨(okIs (by decide)), trivial⟩ fun a60 hf61 => ?_
  refine thenN ?_
  refine wp_seq ?_
  obtain ⟨g62, H0⟩ := if_guard H0
  refine inReg ?_
  refine go 1 [] [0, 1, 7, 8, 9, 40] [(0, .slice A0 x0.length c0), (1, .slice A1 x1.length c1), (7, .int .i64 r50.1), (8, .int .i64 r50.2), (9, .int .i64 (w64 (1 + (Int.tmod (w64 (x2)) 5)))), (40, .int .i64 (w64 (1 + (Int.tmod (w64 (x2)) 5))))] [] hf61 (by kernel_rfl) trivial fun a63 hf65 => ?_
  refine listOf hf65 rfl (by kernel_rfl) (aLit (cs := [.int .i64 (w64 (1 + (Int.tmod (w64 (x2)) 5)))]) (E := 3) (len := 1) (d := 41) hf65 (by kernel_rfl) (by kernel_rfl) ?_)
  intro b66 w67 a68 hbb66 hx70 hg71 hf69
  have hm72 : Mem [] M w0 [.ow (Kd.int .i64) 3 (some ⟨b66, 0, none⟩) 1 ([(w64 (1 + (Int.tmod (w64 (x2)) 5)))] : List Int), .sl (Kd.int .i8) A0 c0 x0, .sl (Kd.int .i64) A1 c1 x1] w67 := Mem.litOwn (kd := (Kd.int .i64)) (xs := ([(w64 (1 + (Int.tmod (w64 (x2)) 5)))] : List Int)) hm57 hbb66 hx70 hg71 (Els.one (kd := (Kd.int .i64)) (us := [.int .i64 (w64 (1 + (Int.tmod (w64 (x2)) 5)))]) (x := (w64 (1 + (Int.tmod (w64 (x2)) 5)))) rfl) (by simp [maxLen])
  refine go 1 [] [0, 1, 7, 8, 9, 41, 42] [(0, .slice A0 x0.length c0), (1, .slice A1 x1.length c1), (7, .int .i64 r50.1), (8, .int .i64 r50.2), (9, .int .i64 (w64 (1 + (Int.tmod (w64 (x2)) 5)))), (41, .slice (some ⟨b66, 0, none⟩) 1 1), (42, .slice A1 x1.length c1)] [] hf69 (by kernel_rfl) trivial fun a73 hf74 => ?_
  have e83 : 1 = ([(w64 (1 + (Int.tmod (w64 (x2)) 5)))] : List Int).length := rfl
  have e84 : x1.length = x1.length := rfl
  refine listOf hf74 rfl (by kernel_rfl) (aApp (kd := (Kd.int .i64)) (base := 0) (E := 3) (A := (some ⟨b66, 0, none⟩)) (B := A1) (c := 1) (c2 := c1) (xs := ([(w64 (1 + (Int.tmod (w64 (x2)) 5)))] : List Int)) (ys := x1) (k := 1) (m := x1.length) (sz := 1) (d := 43) hf74 (by kernel_rfl) e83 e84 (by kernel_rfl) rfl (by kernel_rfl) (hm72.at 0 rfl) (hm72.at2 0 2 rfl rfl).2 (hm72.cpAt 2 rfl) (Nat.zero_le _) (by have := g62; omega) ?_)
  intro A75 c76 w77 a78 ho80 hg81 hr82 hf79
  have hm85 := hm72.setOwn 0 _ rfl rfl ho80 hg81 hr82
  refine go 1 [] [0, 1, 7, 8, 9, 10] [(0, .slice A0 x0.length c0), (1, .slice A1 x1.length c1), (7, .int .i64 r50.1), (8, .int .i64 r50.2), (9, .int .i64 (w64 (1 + (Int.tmod (w64 (x2)) 5)))), (10, .slice A75 ((([(w64 (1 + (Int.tmod (w64 (x2)) 5)))] : List Int) ++ x1).length) c76)] [] hf79 (by kernel_rfl) trivial fun a86 hf87 => ?_
  refine endL rfl ?_
  refine thenN ?_
  refine wp_seq ?_
  obtain ⟨r88, hr88, H0⟩ := ob_split H0
  refine inReg ?_
  refine go 1 [] [0, 1, 7, 8, 9, 10, 45] [(0, .slice A0 x0.length c0), (1, .slice A1 x1.length c1), (7, .int .i64 r50.1), (8, .int .i64 r50.2), (9, .int .i64 (w64 (1 + (Int.tmod (w64 (x2)) 5)))), (10, .slice A75 ((([(w64 (1 + (Int.tmod (w64 (x2)) 5)))] : List Int) ++ x1).length) c76), (45, .slice A75 ((([(w64 (1 + (Int.tmod (w64 (x2)) 5)))] : List Int) ++ x1).length) c76)] [] hf87 (by kernel_rfl) trivial fun a89 hf90 => ?_
  have hm91 : Mem [] M w0 [.sl (Kd.int .i64) A75 c76 (([(w64 (1 + (Int.tmod (w64 (x2)) 5)))] : List Int) ++ x1), .sl (Kd.int .i8) A0 c0 x0, .sl (Kd.int .i64) A1 c1 x1] w77 := hm85.seal 0 _ rfl rfl
  refine listOf hf90 rfl (by kernel_rfl) (aCall (fid := 15) (args := [.slice A75 ((([(w64 (1 + (Int.tmod (w64 (x2)) 5)))] : List Int) ++ x1).length) c76]) (d := 46) hf90 (by kernel_rfl) (by kernel_rfl) callable15 (ref1_Size.calls _ _ (([(w64 (1 + (Int.tmod (w64 (x2)) 5)))] : List Int) ++ x1) A75 ((([(w64 (1 + (Int.tmod (w64 (x2)) 5)))] : List Int) ++ x1).length) c76 rfl (hm91.give [0] [.sl (Kd.int .i64) A75 c76 (([(w64 (1 + (Int.tmod (w64 (x2)) 5)))] : List Int) ++ x1)] rfl rfl) r88 hr88) ?_)
  rintro _ w92 a93 ⟨rfl, hk95⟩ hf94
  have hm96 := hm85.still hk95.cum.none
  refine go 5 [] [0, 1, 7, 8, 9, 10, 11, 12] [(0, .slice A0 x0.length c0), (1, .slice A1 x1.length c1), (7, .int .i64 r50.1), (8, .int .i64 r50.2), (9, .int .i64 (w64 (1 + (Int.tmod (w64 (x2)) 5)))), (10, .slice A75 ((([(w64 (1 + (Int.tmod (w64 (x2)) 5)))] : List Int) ++ x1).length) c76), (11, .int .i64 r88.1), (12, .int .i64 r88.2)] [] hf94 (by kernel_rfl) trivial fun a97 hf98 => ?_
  refine endL rfl ?_
  refine thenN ?_
  refine wp_seq ?_
  refine wp_seq ?_
  rcases if_split H0 with ⟨c99, H0⟩ | ⟨c99, H0⟩
  rotate_left
  · refine reg [.bool true] [0, 1, 7, 9, 10, 11, 58] [(0, .slice A0 x0.length c0), (1, .slice A1 x1.length c1), (7, .int .i64 r50.1), (9, .int .i64 (w64 (1 + (Int.tmod (w64 (x2)) 5)))), (10, .slice A75 ((([(w64 (1 + (Int.tmod (w64 (x2)) 5)))] : List Int) ++ x1).length) c76), (11, .int .i64 r88.1), (58, .bool true)] [.is (((r50.2 : Int) != 0) = true)] hf98 (by kernel_rfl) ⟨(neT c99), trivial⟩ fun a449 hf450 => ?_
    refine thenN ?_
    refine condT hf450 (by kernel_rfl) ?_
    refine wp_seq ?_
    refine reg [] [6] [(6, .bool true)] [] hf450 (by kernel_rfl) trivial fun a451 hf452 => ?_
    have hm453 := hm96.sel [] _ rfl (by kernel_rfl)
    refine thenN ?_
    refine wp_ret ?_
    refine thenR ?_
    have hm454 : Mem [] M w0 [] w92 := hm453.sel [] _ rfl (by kernel_rfl)
    obtain rfl := Option.some.inj H0
    refine ret [] [.bool true] [] hf452 (by kernel_rfl) trivial ?_
    exact ⟨_, rfl, rfl, hm454⟩
  rcases if_split H0 with ⟨c100, H0⟩ | ⟨c100, H0⟩
  rotate_left
  · refine reg [.bool false, .bool true] [0, 1, 7, 9, 10, 11, 58] [(0, .slice A0 x0.length c0), (1, .slice A1 x1.length c1), (7, .int .i64 r50.1), (9, .int .i64 (w64 (1 + (Int.tmod (w64 (x2)) 5)))), (10, .slice A75 ((([(w64 (1 + (Int.tmod (w64 (x2)) 5)))] : List Int) ++ x1).length) c76), (11, .int .i64 r88.1), (58, .bool true)] [.is (((r50.2 : Int) != 0) = false), .is (((r88.2 : Int) != 0) = true)] hf98 (by kernel_rfl) ⟨(neF c99), (neT c100), trivial⟩ fun a442 hf443 => ?_
    refine thenN ?_
    refine condT hf443 (by kernel_rfl) ?_
    refine wp_seq ?_
    refine reg [] [6] [(6, .bool true)] [] hf443 (by kernel_rfl) trivial fun a444 hf445 => ?_
    have hm446 := hm96.sel [] _ rfl (by kernel_rfl)
    refine thenN ?_
    refine wp_ret ?_
    refine thenR ?_
    have hm447 : Mem [] M w0 [] w92 := hm446.sel [] _ rfl (by kernel_rfl)
    obtain rfl := Option.some.inj H0
    refine ret [] [.bool true] [] hf445 (by kernel_rfl) trivial ?_
    exact ⟨_, rfl, rfl, hm447⟩
  rcases if_split H0 with ⟨c101, H0⟩ | ⟨c101, H0⟩
  · refine reg [.bool false, .bool false, .bool true] [0, 1, 7, 9, 10, 11, 58] [(0, .slice A0 x0.length c0), (1, .slice A1 x1.length c1), (7, .int .i64 r50.1), (9, .int .i64 (w64 (1 + (Int.tmod (w64 (x2)) 5)))), (10, .slice A75 ((([(w64 (1 + (Int.tmod (w64 (x2)) 5)))] : List Int) ++ x1).length) c76), (11, .int .i64 r88.1), (58, .bool true)] [.is (((r50.2 : Int) != 0) = false), .is (((r88.2 : Int) != 0) = false), .is (decide (300 < r50.1) = true)] hf98 (by kernel_rfl) ⟨(neF c99), (neF c100), (decide_eq_true c101), trivial⟩ fun a102 hf103 => ?_
    refine thenN ?_
    refine condT hf103 (by kernel_rfl) ?_
    refine wp_seq ?_
    refine reg [] [6] [(6, .bool true)] [] hf103 (by kernel_rfl) trivial fun a104 hf105 => ?_
    have hm106 := hm96.sel [] _ rfl (by kernel_rfl)
    refine thenN ?_
    refine wp_ret ?_
    refine thenR ?_
    have hm107 : Mem [] M w0 [] w92 := hm106.sel [] _ rfl (by kernel_rfl)
    obtain rfl := Option.some.inj H0
    refine ret [] [.bool true] [] hf105 (by kernel_rfl) trivial ?_
    exact ⟨_, rfl, rfl, hm107⟩
  refine reg [.bool false, .bool false, .bool false] [0, 1, 7, 9, 10, 11, 58] [(0, .slice A0 x0.length c0), (1, .slice A1 x1.length c1), (7, .int .i64 r50.1), (9, .int .i64 (w64 (1 + (Int.tmod (w64 (x2)) 5)))), (10, .slice A75 ((([(w64 (1 + (Int.tmod (w64 (x2)) 5)))] : List Int) ++ x1).length) c76), (11, .int .i64 r88.1), (58, .bool false)] [.is (((r50.2 : Int) != 0) = false), .is (((r88.2 : Int) != 0) = false), .is (decide (300 < r50.1) = false)] hf98 (by kernel_rfl) ⟨(neF c99), (neF c100), (decide_eq_false c101), trivial⟩ fun a109 hf110 => ?_
  refine thenN ?_
  refine condF hf110 (by kernel_rfl) ?_
  refine wp_skip ?_
  refine thenN ?_
  refine wp_seq ?_
  refine inReg ?_
  refine go 2 [] [0, 1, 7, 9, 10, 11, 60] [(0, .slice A0 x0.length c0), (1, .slice A1 x1.length c1), (7, .int .i64 r50.1), (9, .int .i64 (w64 (1 + (Int.tmod (w64 (x2)) 5)))), (10, .slice A75 ((([(w64 (1 + (Int.tmod (w64 (x2)) 5)))] : List Int) ++ x1).length) c76), (11, .int .i64 r88.1), (60, .agg #[.slice A1 x1.length c1, .slice none 0 0])] [] hf110 (by kernel_rfl) trivial fun a111 hf112 => ?_
  refine listOf hf112 rfl (by kernel_rfl) (aNew (cs := [.slice none 0 0, .slice none 0 0]) (T := 25) (d := 13) hf112 (by kernel_rfl) (by kernel_rfl) ?_)
  intro b113 w114 a115 hbb113 hx117 hg118 hf116
  have hm119 := hm96.box hbb113 hx117 hg118
  refine listOf hf116 rfl (by kernel_rfl) (aStoreB (b := b113) (j := 0) (T := 25) (cs := [.slice none 0 0, .slice none 0 0]) (us := [.slice A1 x1.length c1, .slice none 0 0]) (cs' := [.slice A1 x1.length c1, .slice none 0 0]) hf116 (by kernel_rfl) (hm119.bxAt 0 rfl) (by kernel_rfl) (by kernel_rfl) (by kernel_rfl) ?_)
  intro w120 hx121 hg122
  have hm123 := hm119.setBox 0 _ rfl rfl hx121 hg122
  refine endL rfl ?_
  refine thenN ?_
  refine wp_seq ?_
  refine wp_seq ?_
  refine reg [] [0, 1, 7, 9, 10, 11, 13, 14] [(0, .slice A0 x0.length c0), (1, .slice A1 x1.length c1), (7, .int .i64 r50.1), (9, .int .i64 (w64 (1 + (Int.tmod (w64 (x2)) 5)))), (10, .slice A75 ((([(w64 (1 + (Int.tmod (w64 (x2)) 5)))] : List Int) ++ x1).length) c76), (11, .int .i64 r88.1), (13, .pointer (some ⟨b113, 0, none⟩)), (14, .int .i64 0)] [] hf116 (by kernel_rfl) trivial fun a124 hf125 => ?_
  refine thenN ?_
  have hm127 := hm123.nilOw Kd.float 26
  obtain ⟨r133, hr133, H0⟩ := ob_split H0
  refine wpBlock (Mid := fun (a : Act) (w : World) => ∃ (A131 : Option Addr) (c132 : Nat), Fr 132 a [(0, .slice A0 x0.length c0), (1, .slice A1 x1.length c1), (7, .int .i64 r50.1), (9, .int .i64 (w64 (1 + (Int.tmod (w64 (x2)) 5)))), (10, .slice A75 ((([(w64 (1 + (Int.tmod (w64 (x2)) 5)))] : List Int) ++ x1).length) c76), (11, .int .i64 r88.1), (13, .pointer (some ⟨b113, 0, none⟩)), (14, .int .i64 r133.1)] ∧ Mem [] M w0 [.ow Kd.float 26 A131 c132 r133.2, .bx b113 [.slice A1 x1.length c1, .slice A131 r133.2.length c132] 25, .ow (Kd.int .i64) 3 A75 c76 (([(w64 (1 + (Int.tmod (w64 (x2)) 5)))] : List Int) ++ x1), .sl (Kd.int .i8) A0 c0 x0, .sl (Kd.int .i64) A1 c1 x1] w) ?_ ?_
  · refine wpLoop (law4_KernelBack.l0 r50 x0) r133 (fun (s130 : (Int × (List Nat))) (a : Act) (w : World) => ∃ (A131 : Option Addr) (c132 : Nat), Fr 132 a [(0, .slice A0 x0.length c0), (1, .slice A1 x1.length c1), (7, .int .i64 r50.1), (9, .int .i64 (w64 (1 + (Int.tmod (w64 (x2)) 5)))), (10, .slice A75 ((([(w64 (1 + (Int.tmod (w64 (x2)) 5)))] : List Int) ++ x1).length) c76), (11, .int .i64 r88.1), (13, .pointer (some ⟨b113, 0, none⟩)), (14, .int .i64 s130.1)] ∧ Mem [] M w0 [.ow Kd.float 26 A131 c132 s130.2, .bx b113 [.slice A1 x1.length c1, .slice A131 s130.2.length c132] 25, .ow (Kd.int .i64) 3 A75 c76 (([(w64 (1 + (Int.tmod (w64 (x2)) 5)))] : List Int) ++ x1), .sl (Kd.int .i8) A0 c0 x0, .sl (Kd.int .i64) A1 c1 x1] w) (0, ([] : (List Nat))) hr133 ⟨none, 0, hf125.sel (l := [0, 1, 7, 9, 10, 11, 13, 14]) (by kernel_rfl), hm127.sel [0, 1, 2, 3, 4] _ rfl (by kernel_rfl)⟩ ?_
    rintro g134 s130 a135 w136 H1 ⟨A131, c132, hf137, hm138⟩
    unfold law4_KernelBack.l0 at H1
    refine wp_seq ?_
    refine wp_seq ?_
    rcases ifS_split H1 with ⟨c139, H1⟩ | ⟨c139, H1⟩
    rotate_left
    · refine reg [.bool false] [0, 1, 7, 9, 10, 11, 13, 14, 63] [(0, .slice A0 x0.length c0), (1, .slice A1 x1.length c1), (7, .int .i64 r50.1), (9, .int .i64 (w64 (1 + (Int.tmod (w64 (x2)) 5)))), (10, .slice A75 ((([(w64 (1 + (Int.tmod (w64 (x2)) 5)))] : List Int) ++ x1).length) c76), (11, .int .i64 r88.1), (13, .pointer (some ⟨b113, 0, none⟩)), (14, .int .i64 s130.1), (63, .bool false)] [.is (decide (s130.1 < r50.1) = false)] hf137 (by kernel_rfl) ⟨(decide_eq_false c139), trivial⟩ fun a213 hf214 => ?_
      refine thenN ?_
      refine condF hf214 (by kernel_rfl) ?_
      refine wp_exit ?_
      refine thenE ?_
      refine thenE ?_
      obtain rfl := Option.some.inj H1
      exact .inl ⟨rfl, A131, c132, hf214.sel (l := [0, 1, 7, 9, 10, 11, 13, 14]) (by kernel_rfl), hm138.sel [0, 1, 2, 3, 4] _ rfl (by kernel_rfl)⟩
    refine reg [.bool true] [0, 1, 7, 9, 10, 11, 13, 14, 63] [(0, .slice A0 x0.length c0), (1, .slice A1 x1.length c1), (7, .int .i64 r50.1), (9, .int .i64 (w64 (1 + (Int.tmod (w64 (x2)) 5)))), (10, .slice A75 ((([(w64 (1 + (Int.tmod (w64 (x2)) 5)))] : List Int) ++ x1).length) c76), (11, .int .i64 r88.1), (13, .pointer (some ⟨b113, 0, none⟩)), (14, .int .i64 s130.1), (63, .bool true)] [.is (decide (s130.1 < r50.1) = true)] hf137 (by kernel_rfl) ⟨(decide_eq_true c139), trivial⟩ fun a140 hf141 => ?_
    refine thenN ?_
    refine condT hf141 (by kernel_rfl) ?_
    refine wp_skip ?_
    refine thenN ?_
    refine wp_seq ?_
    refine wp_block ?_
    refine wp_seq ?_
    refine reg [] [0, 1, 7, 9, 10, 11, 13, 14, 15] [(0, .slice A0 x0.length c0), (1, .slice A1 x1.length c1), (7, .int .i64 r50.1), (9, .int .i64 (w64 (1 + (Int.tmod (w64 (x2)) 5)))), (10, .slice A75 ((([(w64 (1 + (Int.tmod (w64 (x2)) 5)))] : List Int) ++ x1).length) c76), (11, .int .i64 r88.1), (13, .pointer (some ⟨b113, 0, none⟩)), (14, .int .i64 s130.1), (15, .float .f64 0)] [] hf141 (by kernel_rfl) trivial fun a142 hf143 => ?_
    refine thenN ?_
    refine wp_seq ?_
    refine wp_seq ?_
    rcases ifS_split H1 with ⟨c144, H1⟩ | ⟨c144, H1⟩
    rotate_left
    · refine reg [.bool false] [0, 1, 7, 9, 10, 11, 13, 14, 15, 69] [(0, .slice A0 x0.length c0), (1, .slice A1 x1.length c1), (7, .int .i64 r50.1), (9, .int .i64 (w64 (1 + (Int.tmod (w64 (x2)) 5)))), (10, .slice A75 ((([(w64 (1 + (Int.tmod (w64 (x2)) 5)))] : List Int) ++ x1).length) c76), (11, .int .i64 r88.1), (13, .pointer (some ⟨b113, 0, none⟩)), (14, .int .i64 s130.1), (15, .float .f64 0), (69, .bool false)] [.is (decide (s130.1 < (x0.length : Int)) = false)] hf143 (by kernel_rfl) ⟨(decide_eq_false c144), trivial⟩ fun a181 hf182 => ?_
      refine thenN ?_
      refine condF hf182 (by kernel_rfl) ?_
      refine wp_skip ?_
      refine thenN ?_
      obtain ⟨g183, H1⟩ := ifS_guard H1
      refine inReg ?_
      refine go 3 [.slice A131 s130.2.length c132] [0, 1, 7, 9, 10, 11, 13, 14, 76, 77] [(0, .slice A0 x0.length c0), (1, .slice A1 x1.length c1), (7, .int .i64 r50.1), (9, .int .i64 (w64 (1 + (Int.tmod (w64 (x2)) 5)))), (10, .slice A75 ((([(w64 (1 + (Int.tmod (w64 (x2)) 5)))] : List Int) ++ x1).length) c76), (11, .int .i64 r88.1), (13, .pointer (some ⟨b113, 0, none⟩)), (14, .int .i64 s130.1), (76, .slice A131 s130.2.length c132), (77, .float .f64 0)] [.cell ⟨b113, 1, none⟩ (.slice A131 s130.2.length c132)] hf182 (by kernel_rfl) ⟨(hm138.cell 1 rfl rfl), trivial⟩ fun a184 hf185 => ?_
      refine listOf hf185 rfl (by kernel_rfl) (aLit (cs := [.float .f64 0]) (E := 26) (len := 1) (d := 78) hf185 (by kernel_rfl) (by kernel_rfl) ?_)
      intro b186 w187 a188 hbb186 hx190 hg191 hf189
      have hm138s := hm138.still hg191
      have hm192 := Mem.lit (kd := Kd.float) (xs := ([0] : List Nat)) hm138 hbb186 hx190 hg191 (Els.one (kd := Kd.float) (us := [.float .f64 0]) (x := 0) ⟨_, rfl, (FR.lit (by kernel_rfl) (by kernel_rfl))⟩)
      have e201 : s130.2.length = s130.2.length := rfl
      have e202 : 1 = ([0] : List Nat).length := rfl
      refine listOf hf189 rfl (by kernel_rfl) (aApp (kd := Kd.float) (base := 0) (E := 26) (A := A131) (B := (some ⟨b186, 0, none⟩)) (c := c132) (c2 := 1) (xs := s130.2) (ys := ([0] : List Nat)) (k := s130.2.length) (m := 1) (sz := 1) (d := 79) hf189 (by kernel_rfl) e201 e202 (by kernel_rfl) rfl (by kernel_rfl) (hm192.at 1 rfl) (hm192.at2 1 0 rfl rfl).2 (hm192.cpAt 0 rfl) (Nat.zero_le _) (by have := g183; omega) ?_)
      intro A193 c194 w195 a196 ho198 hg199 hr200 hf197
      have hm203 := hm192.setOwn 1 _ rfl rfl ho198 hg199 hr200
      refine go 1 [] [0, 1, 7, 9, 10, 11, 13, 14, 79, 80] [(0, .slice A0 x0.length c0), (1, .slice A1 x1.length c1), (7, .int .i64 r50.1), (9, .int .i64 (w64 (1 + (Int.tmod (w64 (x2)) 5)))), (10, .slice A75 ((([(w64 (1 + (Int.tmod (w64 (x2)) 5)))] : List Int) ++ x1).length) c76), (11, .int .i64 r88.1), (13, .pointer (some ⟨b113, 0, none⟩)), (14, .int .i64 s130.1), (79, .slice A193 ((s130.2 ++ ([0] : List Nat)).length) c194), (80, .pointer (some ⟨b113, 1, none⟩))] [] hf197 (by kernel_rfl) trivial fun a204 hf205 => ?_
      refine listOf hf205 rfl (by kernel_rfl) (aStoreB (b := b113) (j := 1) (T := 25) (cs := [.slice A1 x1.length c1, .slice A131 s130.2.length c132]) (us := [.slice A193 ((s130.2 ++ ([0] : List Nat)).length) c194]) (cs' := [.slice A1 x1.length c1, .slice A193 ((s130.2 ++ ([0] : List Nat)).length) c194]) hf205 (by kernel_rfl) (hm203.bxAt 2 rfl) (by kernel_rfl) (by kernel_rfl) (by kernel_rfl) ?_)
      intro w206 hx207 hg208
      have hm209 := hm203.setBox 2 _ rfl rfl hx207 hg208
      refine endL rfl ?_
      have hm210 := hm209.sel [1, 2, 3, 4, 5] _ rfl (by kernel_rfl)
      refine blkN ?_
      refine thenN ?_
      refine reg [] [0, 1, 7, 9, 10, 11, 13, 14] [(0, .slice A0 x0.length c0), (1, .slice A1 x1.length c1), (7, .int .i64 r50.1), (9, .int .i64 (w64 (1 + (Int.tmod (w64 (x2)) 5)))), (10, .slice A75 ((([(w64 (1 + (Int.tmod (w64 (x2)) 5)))] : List Int) ++ x1).length) c76), (11, .int .i64 r88.1), (13, .pointer (some ⟨b113, 0, none⟩)), (14, .int .i64 (w64 (s130.1 + 1)))] [] hf205 (by kernel_rfl) trivial fun a211 hf212 => ?_
      exact ⟨((w64 (s130.1 + 1)), (s130.2 ++ ([0] : List Nat))), H1, A193, c194, hf212.sel (l := [0, 1, 7, 9, 10, 11, 13, 14]) (by kernel_rfl), hm210.sel [0, 1, 2, 3, 4] _ rfl (by kernel_rfl)⟩
    refine reg [.bool true] [0, 1, 7, 9, 10, 11, 13, 14, 15, 69] [(0, .slice A0 x0.length c0), (1, .slice A1 x1.length c1), (7, .int .i64 r50.1), (9, .int .i64 (w64 (1 + (Int.tmod (w64 (x2)) 5)))), (10, .slice A75 ((([(w64 (1 + (Int.tmod (w64 (x2)) 5)))] : List Int) ++ x1).length) c76), (11, .int .i64 r88.1), (13, .pointer (some ⟨b113, 0, none⟩)), (14, .int .i64 s130.1), (15, .float .f64 0), (69, .bool true)] [.is (decide (s130.1 < (x0.length : Int)) = true)] hf143 (by kernel_rfl) ⟨(decide_eq_true c144), trivial⟩ fun a145 hf146 => ?_
    refine thenN ?_
    refine condT hf146 (by kernel_rfl) ?_
    obtain ⟨g147, H1⟩ := ifS_guard H1
    have q148 := (hm138.slAt 3 rfl).int s130.1 g147.1 g147.2
    refine reg [.int .i8 (rd x0 s130.1)] [0, 1, 7, 9, 10, 11, 13, 14, 15] [(0, .slice A0 x0.length c0), (1, .slice A1 x1.length c1), (7, .int .i64 r50.1), (9, .int .i64 (w64 (1 + (Int.tmod (w64 (x2)) 5)))), (10, .slice A75 ((([(w64 (1 + (Int.tmod (w64 (x2)) 5)))] : List Int) ++ x1).length) c76), (11, .int .i64 r88.1), (13, .pointer (some ⟨b113, 0, none⟩)), (14, .int .i64 s130.1), (15, .float .f64 (FloatKind.f64.nearest (rd x0 s130.1)))] [.is (Option.isSome A0 = true), .is (0 ≤ s130.1 ∧ s130.1 < (x0.length : Int)), .cell ((ad A0).add ((s130.1).toNat * 1)) (.int .i8 (rd x0 s130.1))] hf146 (by kernel_rfl) ⟨q148.1, g147, q148.2, trivial⟩ fun a149 hf150 => ?_
    refine thenN ?_
    obtain ⟨g151, H1⟩ := ifS_guard H1
    refine inReg ?_
    refine go 3 [.slice A131 s130.2.length c132] [0, 1, 7, 9, 10, 11, 13, 14, 76, 77] [(0, .slice A0 x0.length c0), (1, .slice A1 x1.length c1), (7, .int .i64 r50.1), (9, .int .i64 (w64 (1 + (Int.tmod (w64 (x2)) 5)))), (10, .slice A75 ((([(w64 (1 + (Int.tmod (w64 (x2)) 5)))] : List Int) ++ x1).length) c76), (11, .int .i64 r88.1), (13, .pointer (some ⟨b113, 0, none⟩)), (14, .int .i64 s130.1), (76, .slice A131 s130.2.length c132), (77, .float .f64 (FloatKind.f64.nearest (rd x0 s130.1)))] [.cell ⟨b113, 1, none⟩ (.slice A131 s130.2.length c132)] hf150 (by kernel_rfl) ⟨(hm138.cell 1 rfl rfl), trivial⟩ fun a152 hf153 => ?_
    refine listOf hf153 rfl (by kernel_rfl) (aLit (cs := [.float .f64 (FloatKind.f64.nearest (rd x0 s130.1))]) (E := 26) (len := 1) (d := 78) hf153 (by kernel_rfl) (by kernel_rfl) ?_)
    intro b154 w155 a156 hbb154 hx158 hg159 hf157
    have hm138s := hm138.still hg159
    have hm160 := Mem.lit (kd := Kd.float) (xs := ([(ofInt (rd x0 s130.1))] : List Nat)) hm138 hbb154 hx158 hg159 (Els.one (kd := Kd.float) (us := [.float .f64 (FloatKind.f64.nearest (rd x0 s130.1))]) (x := (ofInt (rd x0 s130.1))) ⟨_, rfl, (FR.ofInt (rd x0 s130.1))⟩)
    have e169 : s130.2.length = s130.2.length := rfl
    have e170 : 1 = ([(ofInt (rd x0 s130.1))] : List Nat).length := rfl
    refine listOf hf157 rfl (by kernel_rfl) (aApp (kd := Kd.float) (base := 0) (E := 26) (A := A131) (B := (some ⟨b154, 0, none⟩)) (c := c132) (c2 := 1) (xs := s130.2) (ys := ([(ofInt (rd x0 s130.1))] : List Nat)) (k := s130.2.length) (m := 1) (sz := 1) (d := 79) hf157 (by kernel_rfl) e169 e170 (by kernel_rfl) rfl (by kernel_rfl) (hm160.at 1 rfl) (hm160.at2 1 0 rfl rfl).2 (hm160.cpAt 0 rfl) (Nat.zero_le _) (by have := g151; omega) ?_)
    intro A161 c162 w163 a164 ho166 hg167 hr168 hf165
    have hm171 := hm160.setOwn 1 _ rfl rfl ho166 hg167 hr168
    refine go 1 [] [0, 1, 7, 9, 10, 11, 13, 14, 79, 80] [(0, .slice A0 x0.length c0), (1, .slice A1 x1.length c1), (7, .int .i64 r50.1), (9, .int .i64 (w64 (1 + (Int.tmod (w64 (x2)) 5)))), (10, .slice A75 ((([(w64 (1 + (Int.tmod (w64 (x2)) 5)))] : List Int) ++ x1).length) c76), (11, .int .i64 r88.1), (13, .pointer (some ⟨b113, 0, none⟩)), (14, .int .i64 s130.1), (79, .slice A161 ((s130.2 ++ ([(ofInt (rd x0 s130.1))] : List Nat)).length) c162), (80, .pointer (some ⟨b113, 1, none⟩))] [] hf165 (by kernel_rfl) trivial fun a172 hf173 => ?_
    refine listOf hf173 rfl (by kernel_rfl) (aStoreB (b := b113) (j := 1) (T := 25) (cs := [.slice A1 x1.length c1, .slice A131 s130.2.length c132]) (us := [.slice A161 ((s130.2 ++ ([(ofInt (rd x0 s130.1))] : List Nat)).length) c162]) (cs' := [.slice A1 x1.length c1, .slice A161 ((s130.2 ++ ([(ofInt (rd x0 s130.1))] : List Nat)).length) c162]) hf173 (by kernel_rfl) (hm171.bxAt 2 rfl) (by kernel_rfl) (by kernel_rfl) (by kernel_rfl) ?_)
    intro w174 hx175 hg176
    have hm177 := hm171.setBox 2 _ rfl rfl hx175 hg176
    refine endL rfl ?_
    have hm178 := hm177.sel [1, 2, 3, 4, 5] _ rfl (by kernel_rfl)
    refine blkN ?_
    refine thenN ?_
    refine reg [] [0, 1, 7, 9, 10, 11, 13, 14] [(0, .slice A0 x0.length c0), (1, .slice A1 x1.length c1), (7, .int .i64 r50.1), (9, .int .i64 (w64 (1 + (Int.tmod (w64 (x2)) 5)))), (10, .slice A75 ((([(w64 (1 + (Int.tmod (w64 (x2)) 5)))] : List Int) ++ x1).length) c76), (11, .int .i64 r88.1), (13, .pointer (some ⟨b113, 0, none⟩)), (14, .int .i64 (w64 (s130.1 + 1)))] [] hf173 (by kernel_rfl) trivial fun a179 hf180 => ?_
    exact ⟨((w64 (s130.1 + 1)), (s130.2 ++ ([(ofInt (rd x0 s130.1))] : List Nat))), H1, A161, c162, hf180.sel (l := [0, 1, 7, 9, 10, 11, 13, 14]) (by kernel_rfl), hm178.sel [0, 1, 2, 3, 4] _ rfl (by kernel_rfl)⟩
  rintro a215 w216 ⟨A131, c132, hf217, hm218⟩
  refine thenN ?_
  refine wp_seq ?_
  obtain ⟨r219, hr219, H0⟩ := ob_split H0
  refine inReg ?_
  refine go 2 [.agg #[.slice A1 x1.length c1, .slice A131 r133.2.length c132]] [1, 7, 9, 11, 13, 82, 83] [(1, .slice A1 x1.length c1), (7, .int .i64 r50.1), (9, .int .i64 (w64 (1 + (Int.tmod (w64 (x2)) 5)))), (11, .int .i64 r88.1), (13, .pointer (some ⟨b113, 0, none⟩)), (82, .agg #[.slice A1 x1.length c1, .slice A131 r133.2.length c132]), (83, .slice A75 ((([(w64 (1 + (Int.tmod (w64 (x2)) 5)))] : List Int) ++ x1).length) c76)] [.cell ⟨b113, 0, none⟩ (.slice A1 x1.length c1), .cell ⟨b113, 1, none⟩ (.slice A131 r133.2.length c132)] hf217 (by kernel_rfl) ⟨(hm218.cell 1 rfl rfl), (hm218.cell 1 rfl rfl), trivial⟩ fun a220 hf221 => ?_
  have hm222 : Mem [] M w0 [.sl Kd.float A131 c132 r133.2, .bx b113 [.slice A1 x1.length c1, .slice A131 r133.2.length c132] 25, .ow (Kd.int .i64) 3 A75 c76 (([(w64 (1 + (Int.tmod (w64 (x2)) 5)))] : List Int) ++ x1), .sl (Kd.int .i8) A0 c0 x0, .sl (Kd.int .i64) A1 c1 x1] w216 := hm218.seal 0 _ rfl rfl
  have hm223 : Mem [] M w0 [.sl Kd.float A131 c132 r133.2, .bx b113 [.slice A1 x1.length c1, .slice A131 r133.2.length c132] 25, .sl (Kd.int .i64) A75 c76 (([(w64 (1 + (Int.tmod (w64 (x2)) 5)))] : List Int) ++ x1), .sl (Kd.int .i8) A0 c0 x0, .sl (Kd.int .i64) A1 c1 x1] w216 := hm222.seal 2 _ rfl rfl
  refine listOf hf221 rfl (by kernel_rfl) (aCall (fid := 16) (args := [.agg #[.slice A1 x1.length c1, .slice A131 r133.2.length c132], .slice A75 ((([(w64 (1 + (Int.tmod (w64 (x2)) 5)))] : List Int) ++ x1).length) c76]) (d := 84) hf221 (by kernel_rfl) (by kernel_rfl) callable16 (kernel_Spread.calls _ _ (⟨x1, r133.2⟩ : Tensor) A1 x1.length c1 rfl A131 r133.2.length c132 rfl (([(w64 (1 + (Int.tmod (w64 (x2)) 5)))] : List Int) ++ x1) A75 ((([(w64 (1 + (Int.tmod (w64 (x2)) 5)))] : List Int) ++ x1).length) c76 rfl (hm223.give [4, 0, 2] [.sl (Kd.int .i64) A1 c1 x1, .sl Kd.float A131 c132 r133.2, .sl (Kd.int .i64) A75 c76 (([(w64 (1 + (Int.tmod (w64 (x2)) 5)))] : List Int) ++ x1)] rfl rfl) r219 hr219) ?_)
  rintro _ w228 a229 ⟨A224, c225, A226, c227, rfl, hk231⟩ hf230
  have hm232 := hm218.backF hk231 ⟨Kd.flat_int _, Kd.flat_float, trivial⟩
  have hm233 := hm232.seal 0 _ rfl rfl
  have hm234 := hm233.seal 1 _ rfl rfl
  refine go 3 [] [1, 7, 9, 11, 13, 85, 86] [(1, .slice A1 x1.length c1), (7, .int .i64 r50.1), (9, .int .i64 (w64 (1 + (Int.tmod (w64 (x2)) 5)))), (11, .int .i64 r88.1), (13, .pointer (some ⟨b113, 0, none⟩)), (85, .agg #[.slice A224 r219.1.Shape.length c225, .slice A226 r219.1.Data.length c227]), (86, .int .i64 r219.2)] [] hf230 (by kernel_rfl) trivial fun a235 hf236 => ?_
  refine listOf hf236 rfl (by kernel_rfl) (aNew (cs := [.slice none 0 0, .slice none 0 0]) (T := 25) (d := 16) hf236 (by kernel_rfl) (by kernel_rfl) ?_)
  intro b237 w238 a239 hbb237 hx241 hg242 hf240
  have hm243 := hm234.box hbb237 hx241 hg242
  refine listOf hf240 rfl (by kernel_rfl) (aStoreB (b := b237) (j := 0) (T := 25) (cs := [.slice none 0 0, .slice none 0 0]) (us := [.slice A224 r219.1.Shape.length c225, .slice A226 r219.1.Data.length c227]) (cs' := [.slice A224 r219.1.Shape.length c225, .slice A226 r219.1.Data.length c227]) hf240 (by kernel_rfl) (hm243.bxAt 0 rfl) (by kernel_rfl) (by kernel_rfl) (by kernel_rfl) ?_)
  intro w244 hx245 hg246
  have hm247 := hm243.setBox 0 _ rfl rfl hx245 hg246
  refine go 1 [] [1, 7, 9, 11, 13, 16, 17] [(1, .slice A1 x1.length c1), (7, .int .i64 r50.1), (9, .int .i64 (w64 (1 + (Int.tmod (w64 (x2)) 5)))), (11, .int .i64 r88.1), (13, .pointer (some ⟨b113, 0, none⟩)), (16, .pointer (some ⟨b237, 0, none⟩)), (17, .int .i64 r219.2)] [] hf240 (by kernel_rfl) trivial fun a248 hf249 => ?_
  refine endL rfl ?_
  have hm250 := hm247.sel [0, 1, 2, 3, 4, 7] _ rfl (by kernel_rfl)
  refine thenN ?_
  refine wp_seq ?_
  obtain ⟨r251, hr251, H0⟩ := ob_split H0
  refine inReg ?_
  refine go 2 [.agg #[.slice A224 r219.1.Shape.length c225, .slice A226 r219.1.Data.length c227]] [7, 9, 11, 13, 16, 17, 88, 89] [(7, .int .i64 r50.1), (9, .int .i64 (w64 (1 + (Int.tmod (w64 (x2)) 5)))), (11, .int .i64 r88.1), (13, .pointer (some ⟨b113, 0, none⟩)), (16, .pointer (some ⟨b237, 0, none⟩)), (17, .int .i64 r219.2), (88, .agg #[.slice A224 r219.1.Shape.length c225, .slice A226 r219.1.Data.length c227]), (89, .slice A1 x1.length c1)] [.cell ⟨b237, 0, none⟩ (.slice A224 r219.1.Shape.length c225), .cell ⟨b237, 1, none⟩ (.slice A226 r219.1.Data.length c227)] hf249 (by kernel_rfl) ⟨(hm250.cell 0 rfl rfl), (hm250.cell 0 rfl rfl), trivial⟩ fun a252 hf253 => ?_
  refine listOf hf253 rfl (by kernel_rfl) (aCall (fid := 17) (args := [.agg #[.slice A224 r219.1.Shape.length c225, .slice A226 r219.1.Data.length c227], .slice A1 x1.length c1]) (d := 90) hf253 (by kernel_rfl) (by kernel_rfl) callable17 (kernel_Gather.calls _ _ r219.1 A224 r219.1.Shape.length c225 rfl A226 r219.1.Data.length c227 rfl x1 A1 x1.length c1 rfl (hm250.give [1, 2, 5] [.sl (Kd.int .i64) A224 c225 r219.1.Shape, .sl Kd.float A226 c227 r219.1.Data, .sl (Kd.int .i64) A1 c1 x1] rfl rfl) r251 hr251) ?_)
  rintro _ w258 a259 ⟨A254, c255, A256, c257, rfl, hk261⟩ hf260
  have hm262 := hm250.back hk261
  have hm263 := hm262.seal 0 _ rfl rfl
  have hm264 := hm263.seal 1 _ rfl rfl
  refine go 3 [] [7, 9, 11, 13, 16, 17, 91, 92] [(7, .int .i64 r50.1), (9, .int .i64 (w64 (1 + (Int.tmod (w64 (x2)) 5)))), (11, .int .i64 r88.1), (13, .pointer (some ⟨b113, 0, none⟩)), (16, .pointer (some ⟨b237, 0, none⟩)), (17, .int .i64 r219.2), (91, .agg #[.slice A254 r251.1.Shape.length c255, .slice A256 r251.1.Data.length c257]), (92, .int .i64 r251.2)] [] hf260 (by kernel_rfl) trivial fun a265 hf266 => ?_
  refine listOf hf266 rfl (by kernel_rfl) (aNew (cs := [.slice none 0 0, .slice none 0 0]) (T := 25) (d := 18) hf266 (by kernel_rfl) (by kernel_rfl) ?_)
  intro b267 w268 a269 hbb267 hx271 hg272 hf270
  have hm273 := hm264.box hbb267 hx271 hg272
  refine listOf hf270 rfl (by kernel_rfl) (aStoreB (b := b267) (j := 0) (T := 25) (cs := [.slice none 0 0, .slice none 0 0]) (us := [.slice A254 r251.1.Shape.length c255, .slice A256 r251.1.Data.length c257]) (cs' := [.slice A254 r251.1.Shape.length c255, .slice A256 r251.1.Data.length c257]) hf270 (by kernel_rfl) (hm273.bxAt 0 rfl) (by kernel_rfl) (by kernel_rfl) (by kernel_rfl) ?_)
  intro w274 hx275 hg276
  have hm277 := hm273.setBox 0 _ rfl rfl hx275 hg276
  refine go 1 [] [7, 9, 11, 13, 16, 17, 18, 19] [(7, .int .i64 r50.1), (9, .int .i64 (w64 (1 + (Int.tmod (w64 (x2)) 5)))), (11, .int .i64 r88.1), (13, .pointer (some ⟨b113, 0, none⟩)), (16, .pointer (some ⟨b237, 0, none⟩)), (17, .int .i64 r219.2), (18, .pointer (some ⟨b267, 0, none⟩)), (19, .int .i64 r251.2)] [] hf270 (by kernel_rfl) trivial fun a278 hf279 => ?_
  refine endL rfl ?_
  refine thenN ?_
  refine wp_seq ?_
  refine wp_seq ?_
  rcases if_split H0 with ⟨c280, H0⟩ | ⟨c280, H0⟩
  rotate_left
  · refine reg [.bool true] [7, 9, 13, 18, 112] [(7, .int .i64 r50.1), (9, .int .i64 (w64 (1 + (Int.tmod (w64 (x2)) 5)))), (13, .pointer (some ⟨b113, 0, none⟩)), (18, .pointer (some ⟨b267, 0, none⟩)), (112, .bool true)] [.is (((r219.2 : Int) != 0) = true)] hf279 (by kernel_rfl) ⟨(neT c280), trivial⟩ fun a434 hf435 => ?_
    have hm436 := hm277.sel [0, 1, 2, 6, 7, 8] _ rfl (by kernel_rfl)
    refine thenN ?_
    refine condT hf435 (by kernel_rfl) ?_
    refine wp_seq ?_
    refine reg [] [6] [(6, .bool false)] [] hf435 (by kernel_rfl) trivial fun a437 hf438 => ?_
    have hm439 := hm436.sel [] _ rfl (by kernel_rfl)
    refine thenN ?_
    refine wp_ret ?_
    refine thenR ?_
    have hm440 : Mem [] M w0 [] w274 := hm439.sel [] _ rfl (by kernel_rfl)
    obtain rfl := Option.some.inj H0
    refine ret [] [.bool false] [] hf438 (by kernel_rfl) trivial ?_
    exact ⟨_, rfl, rfl, hm440⟩
  rcases if_split H0 with ⟨c281, H0⟩ | ⟨c281, H0⟩
  rotate_left
  · refine reg [.bool false, .bool true] [7, 9, 13, 18, 112] [(7, .int .i64 r50.1), (9, .int .i64 (w64 (1 + (Int.tmod (w64 (x2)) 5)))), (13, .pointer (some ⟨b113, 0, none⟩)), (18, .pointer (some ⟨b267, 0, none⟩)), (112, .bool true)] [.is (((r219.2 : Int) != 0) = false), .is (((r251.2 : Int) != 0) = true)] hf279 (by kernel_rfl) ⟨(neF c280), (neT c281), trivial⟩ fun a426 hf427 => ?_
    have hm428 := hm277.sel [0, 1, 2, 6, 7, 8] _ rfl (by kernel_rfl)
    refine thenN ?_
    refine condT hf427 (by kernel_rfl) ?_
    refine wp_seq ?_
    refine reg [] [6] [(6, .bool false)] [] hf427 (by kernel_rfl) trivial fun a429 hf430 => ?_
    have hm431 := hm428.sel [] _ rfl (by kernel_rfl)
    refine thenN ?_
    refine wp_ret ?_
    refine thenR ?_
    have hm432 : Mem [] M w0 [] w274 := hm431.sel [] _ rfl (by kernel_rfl)
    obtain rfl := Option.some.inj H0
    refine ret [] [.bool false] [] hf430 (by kernel_rfl) trivial ?_
    exact ⟨_, rfl, rfl, hm432⟩
  rcases if_split H0 with ⟨c282, H0⟩ | ⟨c282, H0⟩
  rotate_left
  · refine reg [.bool false, .bool false, .slice A226 r219.1.Data.length c227, .bool true] [7, 9, 13, 18, 112] [(7, .int .i64 r50.1), (9, .int .i64 (w64 (1 + (Int.tmod (w64 (x2)) 5)))), (13, .pointer (some ⟨b113, 0, none⟩)), (18, .pointer (some ⟨b267, 0, none⟩)), (112, .bool true)] [.is (((r219.2 : Int) != 0) = false), .is (((r251.2 : Int) != 0) = false), .cell ⟨b237, 1, none⟩ (.slice A226 r219.1.Data.length c227), .is ((((r219.1.Data.length : Int) : Int) != r88.1) = true)] hf279 (by kernel_rfl) ⟨(neF c280), (neF c281), (hm277.cell 3 rfl rfl), (neT c282), trivial⟩ fun a418 hf419 => ?_
    have hm420 := hm277.sel [0, 1, 2, 6, 7, 8] _ rfl (by kernel_rfl)
    refine thenN ?_
    refine condT hf419 (by kernel_rfl) ?_
    refine wp_seq ?_
    refine reg [] [6] [(6, .bool false)] [] hf419 (by kernel_rfl) trivial fun a421 hf422 => ?_
    have hm423 := hm420.sel [] _ rfl (by kernel_rfl)
    refine thenN ?_
    refine wp_ret ?_
    refine thenR ?_
    have hm424 : Mem [] M w0 [] w274 := hm423.sel [] _ rfl (by kernel_rfl)
    obtain rfl := Option.some.inj H0
    refine ret [] [.bool false] [] hf422 (by kernel_rfl) trivial ?_
    exact ⟨_, rfl, rfl, hm424⟩
  rcases if_split H0 with ⟨c283, H0⟩ | ⟨c283, H0⟩
  rotate_left
  · refine reg [.bool false, .bool false, .slice A226 r219.1.Data.length c227, .bool false, .slice A256 r251.1.Data.length c257, .bool true] [7, 9, 13, 18, 112] [(7, .int .i64 r50.1), (9, .int .i64 (w64 (1 + (Int.tmod (w64 (x2)) 5)))), (13, .pointer (some ⟨b113, 0, none⟩)), (18, .pointer (some ⟨b267, 0, none⟩)), (112, .bool true)] [.is (((r219.2 : Int) != 0) = false), .is (((r251.2 : Int) != 0) = false), .cell ⟨b237, 1, none⟩ (.slice A226 r219.1.Data.length c227), .is ((((r219.1.Data.length : Int) : Int) != r88.1) = false), .cell ⟨b267, 1, none⟩ (.slice A256 r251.1.Data.length c257), .is ((((r251.1.Data.length : Int) : Int) != r50.1) = true)] hf279 (by kernel_rfl) ⟨(neF c280), (neF c281), (hm277.cell 3 rfl rfl), (neF c282), (hm277.cell 0 rfl rfl), (neT c283), trivial⟩ fun a410 hf411 => ?_
    have hm412 := hm277.sel [0, 1, 2, 6, 7, 8] _ rfl (by kernel_rfl)
    refine thenN ?_
    refine condT hf411 (by kernel_rfl) ?_
    refine wp_seq ?_
    refine reg [] [6] [(6, .bool false)] [] hf411 (by kernel_rfl) trivial fun a413 hf414 => ?_
    have hm415 := hm412.sel [] _ rfl (by kernel_rfl)
    refine thenN ?_
    refine wp_ret ?_
    refine thenR ?_
    have hm416 : Mem [] M w0 [] w274 := hm415.sel [] _ rfl (by kernel_rfl)
    obtain rfl := Option.some.inj H0
    refine ret [] [.bool false] [] hf414 (by kernel_rfl) trivial ?_
    exact ⟨_, rfl, rfl, hm416⟩
  refine reg [.bool false, .bool false, .slice A226 r219.1.Data.length c227, .bool false, .slice A256 r251.1.Data.length c257, .bool false] [7, 9, 13, 18, 112] [(7, .int .i64 r50.1), (9, .int .i64 (w64 (1 + (Int.tmod (w64 (x2)) 5)))), (13, .pointer (some ⟨b113, 0, none⟩)), (18, .pointer (some ⟨b267, 0, none⟩)), (112, .bool false)] [.is (((r219.2 : Int) != 0) = false), .is (((r251.2 : Int) != 0) = false), .cell ⟨b237, 1, none⟩ (.slice A226 r219.1.Data.length c227), .is ((((r219.1.Data.length : Int) : Int) != r88.1) = false), .cell ⟨b267, 1, none⟩ (.slice A256 r251.1.Data.length c257), .is ((((r251.1.Data.length : Int) : Int) != r50.1) = false)] hf279 (by kernel_rfl) ⟨(neF c280), (neF c281), (hm277.cell 3 rfl rfl), (neF c282), (hm277.cell 0 rfl rfl), (neF c283), trivial⟩ fun a284 hf285 => ?_
  have hm286 := hm277.sel [0, 1, 2, 6, 7, 8] _ rfl (by kernel_rfl)
  refine thenN ?_
  refine condF hf285 (by kernel_rfl) ?_
  refine wp_skip ?_
  refine thenN ?_
  refine wp_seq ?_
  refine wp_seq ?_
  refine reg [] [7, 9, 13, 18, 20] [(7, .int .i64 r50.1), (9, .int .i64 (w64 (1 + (Int.tmod (w64 (x2)) 5)))), (13, .pointer (some ⟨b113, 0, none⟩)), (18, .pointer (some ⟨b267, 0, none⟩)), (20, .int .i64 0)] [] hf285 (by kernel_rfl) trivial fun a287 hf288 => ?_
  refine thenN ?_
  obtain ⟨r290, hr290, H0⟩ := ob_split H0
  refine wpBlock (Mid := fun (a : Act) (w : World) => ∃ yr290 : Int, r290 = .go yr290 ∧ Fr 132 a [(7, .int .i64 r50.1), (9, .int .i64 (w64 (1 + (Int.tmod (w64 (x2)) 5)))), (13, .pointer (some ⟨b113, 0, none⟩)), (18, .pointer (some ⟨b267, 0, none⟩)), (20, .int .i64 yr290)] ∧ Mem [] M w0 [.bx b267 [.slice A254 r251.1.Shape.length c255, .slice A256 r251.1.Data.length c257] 25, .sl (Kd.int .i64) A254 c255 r251.1.Shape, .sl Kd.float A256 c257 r251.1.Data, .ow Kd.float 26 A131 c132 r133.2, .bx b113 [.slice A1 x1.length c1, .slice A131 r133.2.length c132] 25, .sl (Kd.int .i64) A1 c1 x1] w) ?_ ?_
  · refine wpLoop (law4_KernelBack.l1 r50 r251 r133 x2) r290 (fun (s289 : Int) (a : Act) (w : World) => Fr 132 a [(7, .int .i64 r50.1), (9, .int .i64 (w64 (1 + (Int.tmod (w64 (x2)) 5)))), (13, .pointer (some ⟨b113, 0, none⟩)), (18, .pointer (some ⟨b267, 0, none⟩)), (20, .int .i64 s289)] ∧ Mem [] M w0 [.bx b267 [.slice A254 r251.1.Shape.length c255, .slice A256 r251.1.Data.length c257] 25, .sl (Kd.int .i64) A254 c255 r251.1.Shape, .sl Kd.float A256 c257 r251.1.Data, .ow Kd.float 26 A131 c132 r133.2, .bx b113 [.slice A1 x1.length c1, .slice A131 r133.2.length c132] 25, .sl (Kd.int .i64) A1 c1 x1] w) 0 hr290 ⟨hf288.sel (l := [7, 9, 13, 18, 20]) (by kernel_rfl), hm286.sel [0, 1, 2, 3, 4, 5] _ rfl (by kernel_rfl)⟩ ?_
    rintro g291 s289 a292 w293 H1 ⟨hf294, hm295⟩
    unfold law4_KernelBack.l1 at H1
    refine wp_seq ?_
    refine wp_seq ?_
    rcases ifS_split H1 with ⟨c296, H1⟩ | ⟨c296, H1⟩
    rotate_left
    · refine reg [.bool false] [7, 9, 13, 18, 20, 115] [(7, .int .i64 r50.1), (9, .int .i64 (w64 (1 + (Int.tmod (w64 (x2)) 5)))), (13, .pointer (some ⟨b113, 0, none⟩)), (18, .pointer (some ⟨b267, 0, none⟩)), (20, .int .i64 s289), (115, .bool false)] [.is (decide (s289 < r50.1) = false)] hf294 (by kernel_rfl) ⟨(decide_eq_false c296), trivial⟩ fun a399 hf400 => ?_
      refine thenN ?_
      refine condF hf400 (by kernel_rfl) ?_
      refine wp_exit ?_
      refine thenE ?_
      refine thenE ?_
      obtain rfl := Option.some.inj H1
      exact .inl ⟨rfl, s289, rfl, hf400.sel (l := [7, 9, 13, 18, 20]) (by kernel_rfl), hm295.sel [0, 1, 2, 3, 4, 5] _ rfl (by kernel_rfl)⟩
    refine reg [.bool true] [7, 9, 13, 18, 20, 115] [(7, .int .i64 r50.1), (9, .int .i64 (w64 (1 + (Int.tmod (w64 (x2)) 5)))), (13, .pointer (some ⟨b113, 0, none⟩)), (18, .pointer (some ⟨b267, 0, none⟩)), (20, .int .i64 s289), (115, .bool true)] [.is (decide (s289 < r50.1) = true)] hf294 (by kernel_rfl) ⟨(decide_eq_true c296), trivial⟩ fun a297 hf298 => ?_
    refine thenN ?_
    refine condT hf298 (by kernel_rfl) ?_
    refine wp_skip ?_
    refine thenN ?_
    refine wp_seq ?_
    refine wp_block ?_
    refine wp_seq ?_
    obtain ⟨g299, H1⟩ := ifS_guard H1
    obtain ⟨g300, H1⟩ := ifS_guard H1
    rcases ifbS_split H1 with ⟨c301, H1⟩ | ⟨c301, H1⟩
    rotate_left
    · refine midReg (fun (a : Act) (w : World) => Fr 132 a [(7, .int .i64 r50.1), (9, .int .i64 (w64 (1 + (Int.tmod (w64 (x2)) 5)))), (13, .pointer (some ⟨b113, 0, none⟩)), (18, .pointer (some ⟨b267, 0, none⟩)), (20, .int .i64 s289), (131, .bool false)] ∧ Mem [] M w0 [.bx b267 [.slice A254 r251.1.Shape.length c255, .slice A256 r251.1.Data.length c257] 25, .sl (Kd.int .i64) A254 c255 r251.1.Shape, .sl Kd.float A256 c257 r251.1.Data, .ow Kd.float 26 A131 c132 r133.2, .bx b113 [.slice A1 x1.length c1, .slice A131 r133.2.length c132] 25, .sl (Kd.int .i64) A1 c1 x1] w) ?_ ?_
      · refine anyG [] (by kernel_rfl) fun w362 hg363 => ?_
        have hm364 := hm295.still hg363
        have q379 := (hm364.slAt 2 rfl).float s289 g299.1 g299.2
        obtain ⟨b380, hb380, kb380⟩ := q379.2
        have q381 := (hm364.owAt 3 rfl).float s289 g300.1 g300.2
        obtain ⟨b382, hb382, kb382⟩ := q381.2
        refine quiet0 [0, 1, 2, 3, 4, 5, 6, 7, 8, 9, 10, 11] [.slice A256 r251.1.Data.length c257, .float .f64 b380, .slice A131 r133.2.length c132, .float .f64 b382] [7, 9, 13, 18, 20, 122, 124, 129] #[true, true, true, true, true, true, true, true, true, true, true, true, false, false] [(7, .int .i64 r50.1), (9, .int .i64 (w64 (1 + (Int.tmod (w64 (x2)) 5)))), (13, .pointer (some ⟨b113, 0, none⟩)), (18, .pointer (some ⟨b267, 0, none⟩)), (20, .int .i64 s289), (122, .float .f64 b380), (124, .float .f64 (FloatKind.f64.nearest (w64 (1 + (Int.tmod (w64 (x2)) 5))))), (129, .float .f64 b382)] [.cell ⟨b267, 1, none⟩ (.slice A256 r251.1.Data.length c257), .is (Option.isSome A256 = true), .is (0 ≤ s289 ∧ s289 < (r251.1.Data.length : Int)), .cell ((ad A256).add ((s289).toNat * 1)) (.float .f64 b380), .cell ⟨b113, 1, none⟩ (.slice A131 r133.2.length c132), .is (Option.isSome A131 = true), .is (0 ≤ s289 ∧ s289 < (r133.2.length : Int)), .cell ((ad A131).add ((s289).toNat * 1)) (.float .f64 b382)] 2 rfl (by kernel_rfl) (fun _ _ _ _ _ h => nomatch h.1) hf298 (by kernel_rfl) ⟨(hm364.cell 0 rfl rfl), q379.1, g299, kb380, (hm364.cell 4 rfl rfl), q381.1, g300, kb382, trivial⟩ fun a383 hf384 => ?_
        refine all1 12 (by kernel_rfl) ?_
        refine opOf hf384 rfl (by kernel_rfl) (aArith (k := 2) (b := (FloatKind.f64.nearest (w64 (1 + (Int.tmod (w64 (x2)) 5))))) (c := b382) (x := (ofInt (w64 (1 + (Int.tmod (w64 (x2)) 5))))) (y := (rd r133.2 s289)) (d := 130) hf384 (by kernel_rfl) (by kernel_rfl) (FR.ofInt (w64 (1 + (Int.tmod (w64 (x2)) 5)))) hb382 ?_)
        intro b385 w386 a387 hb385 hg389 hf388
        refine ⟨.inr (Gr.still hg389), ?_⟩
        replace hb385 : FR b385 (fmul (ofInt (w64 (1 + (Int.tmod (w64 (x2)) 5)))) (rd r133.2 s289)) := hb385
        have hm390 := hm364.still hg389
        refine quiet0 [13] [.bool false] [7, 9, 13, 18, 20, 131] #[true, true, true, true, true, true, true, true, true, true, true, true, true, true] [(7, .int .i64 r50.1), (9, .int .i64 (w64 (1 + (Int.tmod (w64 (x2)) 5)))), (13, .pointer (some ⟨b113, 0, none⟩)), (18, .pointer (some ⟨b267, 0, none⟩)), (20, .int .i64 s289), (131, .bool false)] [.is ((FloatKind.f64.format.order b380 b385 != some .eq) = false)] 0 rfl (by kernel_rfl) (fun _ _ _ _ _ h => nomatch h.1) hf388 (by kernel_rfl) ⟨(ftNe hb380 hb385 c301), trivial⟩ fun a391 hf392 => ?_
        refine allDone (by kernel_rfl) ⟨rfl, hf392.sel (l := [7, 9, 13, 18, 20, 131]) (by kernel_rfl), hm390.sel [0, 1, 2, 3, 4, 5] _ rfl (by kernel_rfl)⟩
      rintro a393 w394 ⟨hf395, hm396⟩
      refine thenN ?_
      refine condF hf395 (by kernel_rfl) ?_
      refine wp_skip ?_
      refine blkN ?_
      refine thenN ?_
      refine reg [] [7, 9, 13, 18, 20] [(7, .int .i64 r50.1), (9, .int .i64 (w64 (1 + (Int.tmod (w64 (x2)) 5)))), (13, .pointer (some ⟨b113, 0, none⟩)), (18, .pointer (some ⟨b267, 0, none⟩)), (20, .int .i64 (w64 (s289 + 1)))] [] hf395 (by kernel_rfl) trivial fun a397 hf398 => ?_
      exact ⟨(w64 (s289 + 1)), H1, hf398.sel (l := [7, 9, 13, 18, 20]) (by kernel_rfl), hm396.sel [0, 1, 2, 3, 4, 5] _ rfl (by kernel_rfl)⟩
    refine midReg (fun (a : Act) (w : World) => Fr 132 a [(7, .int .i64 r50.1), (9, .int .i64 (w64 (1 + (Int.tmod (w64 (x2)) 5)))), (13, .pointer (some ⟨b113, 0, none⟩)), (18, .pointer (some ⟨b267, 0, none⟩)), (20, .int .i64 s289), (131, .bool true)] ∧ Mem [] M w0 [.bx b267 [.slice A254 r251.1.Shape.length c255, .slice A256 r251.1.Data.length c257] 25, .sl (Kd.int .i64) A254 c255 r251.1.Shape, .sl Kd.float A256 c257 r251.1.Data, .ow Kd.float 26 A131 c132 r133.2, .bx b113 [.slice A1 x1.length c1, .slice A131 r133.2.length c132] 25, .sl (Kd.int .i64) A1 c1 x1] w) ?_ ?_
    · refine anyG [] (by kernel_rfl) fun w312 hg313 => ?_
      have hm314 := hm295.still hg313
      have q329 := (hm314.slAt 2 rfl).float s289 g299.1 g299.2
      obtain ⟨b330, hb330, kb330⟩ := q329.2
      have q331 := (hm314.owAt 3 rfl).float s289 g300.1 g300.2
      obtain ⟨b332, hb332, kb332⟩ := q331.2
      refine quiet0 [0, 1, 2, 3, 4, 5, 6, 7, 8, 9, 10, 11] [.slice A256 r251.1.Data.length c257, .float .f64 b330, .slice A131 r133.2.length c132, .float .f64 b332] [7, 9, 13, 18, 20, 122, 124, 129] #[true, true, true, true, true, true, true, true, true, true, true, true, false, false] [(7, .int .i64 r50.1), (9, .int .i64 (w64 (1 + (Int.tmod (w64 (x2)) 5)))), (13, .pointer (some ⟨b113, 0, none⟩)), (18, .pointer (some ⟨b267, 0, none⟩)), (20, .int .i64 s289), (122, .float .f64 b330), (124, .float .f64 (FloatKind.f64.nearest (w64 (1 + (Int.tmod (w64 (x2)) 5))))), (129, .float .f64 b332)] [.cell ⟨b267, 1, none⟩ (.slice A256 r251.1.Data.length c257), .is (Option.isSome A256 = true), .is (0 ≤ s289 ∧ s289 < (r251.1.Data.length : Int)), .cell ((ad A256).add ((s289).toNat * 1)) (.float .f64 b330), .cell ⟨b113, 1, none⟩ (.slice A131 r133.2.length c132), .is (Option.isSome A131 = true), .is (0 ≤ s289 ∧ s289 < (r133.2.length : Int)), .cell ((ad A131).add ((s289).toNat * 1)) (.float .f64 b332)] 2 rfl (by kernel_rfl) (fun _ _ _ _ _ h => nomatch h.1) hf298 (by kernel_rfl) ⟨(hm314.cell 0 rfl rfl), q329.1, g299, kb330, (hm314.cell 4 rfl rfl), q331.1, g300, kb332, trivial⟩ fun a333 hf334 => ?_
      refine all1 12 (by kernel_rfl) ?_
      refine opOf hf334 rfl (by kernel_rfl) (aArith (k := 2) (b := (FloatKind.f64.nearest (w64 (1 + (Int.tmod (w64 (x2)) 5))))) (c := b332) (x := (ofInt (w64 (1 + (Int.tmod (w64 (x2)) 5))))) (y := (rd r133.2 s289)) (d := 130) hf334 (by kernel_rfl) (by kernel_rfl) (FR.ofInt (w64 (1 + (Int.tmod (w64 (x2)) 5)))) hb332 ?_)
      intro b335 w336 a337 hb335 hg339 hf338
      refine ⟨.inr (Gr.still hg339), ?_⟩
      replace hb335 : FR b335 (fmul (ofInt (w64 (1 + (Int.tmod (w64 (x2)) 5)))) (rd r133.2 s289)) := hb335
      have hm340 := hm314.still hg339
      refine quiet0 [13] [.bool true] [7, 9, 13, 18, 20, 131] #[true, true, true, true, true, true, true, true, true, true, true, true, true, true] [(7, .int .i64 r50.1), (9, .int .i64 (w64 (1 + (Int.tmod (w64 (x2)) 5)))), (13, .pointer (some ⟨b113, 0, none⟩)), (18, .pointer (some ⟨b267, 0, none⟩)), (20, .int .i64 s289), (131, .bool true)] [.is ((FloatKind.f64.format.order b330 b335 != some .eq) = true)] 0 rfl (by kernel_rfl) (fun _ _ _ _ _ h => nomatch h.1) hf338 (by kernel_rfl) ⟨(ftNe hb330 hb335 c301), trivial⟩ fun a341 hf342 => ?_
      refine allDone (by kernel_rfl) ⟨rfl, hf342.sel (l := [7, 9, 13, 18, 20, 131]) (by kernel_rfl), hm340.sel [0, 1, 2, 3, 4, 5] _ rfl (by kernel_rfl)⟩
    rintro a343 w344 ⟨hf345, hm346⟩
    refine thenN ?_
    refine condT hf345 (by kernel_rfl) ?_
    refine wp_seq ?_
    refine reg [] [6] [(6, .bool false)] [] hf345 (by kernel_rfl) trivial fun a347 hf348 => ?_
    have hm349 := hm346.sel [] _ rfl (by kernel_rfl)
    refine thenN ?_
    refine wp_ret ?_
    refine blkR ?_
    refine thenR ?_
    refine thenR ?_
    refine .inr ⟨rfl, ?_⟩
    refine thenR ?_
    have hm350 : Mem [] M w0 [] w344 := hm349.sel [] _ rfl (by kernel_rfl)
    obtain rfl := Option.some.inj H1
    obtain rfl := Option.some.inj H0
    refine ret [] [.bool false] [] hf348 (by kernel_rfl) trivial ?_
    exact ⟨_, rfl, rfl, hm350⟩
  rintro a401 w402 ⟨yr290, rfl, hf403, hm404⟩
  refine thenN ?_
  refine wp_seq ?_
  refine reg [] [6] [(6, .bool true)] [] hf403 (by kernel_rfl) trivial fun a405 hf406 => ?_
  have hm407 := hm404.sel [] _ rfl (by kernel_rfl)
  refine thenN ?_
  refine wp_ret ?_
  have hm408 : Mem [] M w0 [] w402 := hm407.sel [] _ rfl (by kernel_rfl)
  obtain rfl := Option.some.inj H0
  refine ret [] [.bool true] [] hf406 (by kernel_rfl) trivial ?_
  exact ⟨_, rfl, rfl, hm408⟩
end Go.Proofs.Ytkcgiolledmbnac
