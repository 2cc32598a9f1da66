/- Printed by gen.py. -/
import Derived.Test.YtkcgiolledmbnabF0
import Derived.Test.YtkcgiolledmbnabF2
namespace Go.Proofs.Ytkcgiolledmbnab
open Go Go.RowKit
set_option linter.unusedSimpArgs false
set_option linter.unusedVariables false
set_option linter.unnecessarySimpa false
/-! ### math/bits.Mul -/
noncomputable def bits_Mul.f (x0 : Int) (x1 : Int) : Option (Int × Int) :=
  (bits_Mul64.f x0 x1).bind fun r23 =>
  some (r23.1, r23.2)
set_option maxRecDepth 100000 in
set_option maxHeartbeats 4000000 in
theorem bits_Mul.calls (M : List (Option Nat)) (w0 : World) (x0 : Int) (x1 : Int) (hm0 : Mem [] M w0 [] w0) (r : (Int × Int)) (H0 : bits_Mul.f x0 x1 = some r) :
    Calls Try.prog 81 [.int .u64 x0, .int .u64 x1].toArray w0 (fun x w' => ∃ v, x = .returned v ∧ v = .tuple #[.int .u64 r.1, .int .u64 r.2] ∧ Mem [] M w0 [] w') := by
  unfold bits_Mul.f at H0
  refine enter (n := 30) Try.func81 rfl rfl (by kernel_rfl) fun a0 (hf0 : Fr 30 a0 [(0, .int .u64 x0), (1, .int .u64 x1)]) => ?_
  refine wp_seq ?_
  refine reg [] [0, 1] [(0, .int .u64 x0), (1, .int .u64 x1)] [] hf0 (by kernel_rfl) trivial fun a21 hf22 => ?_
  refine thenN ?_
  refine wp_seq ?_
  refine condF hf22 (by kernel_rfl) ?_
  refine wp_skip ?_
  refine thenN ?_
  refine wp_seq ?_
  obtain ⟨r23, hr23, H0⟩ := ob_split H0
  refine inReg ?_
  refine go 2 [] [23, 24] [(23, .int .u64 x0), (24, .int .u64 x1)] [] hf22 (by kernel_rfl) trivial fun a24 hf25 => ?_
  refine listOf hf25 rfl (by kernel_rfl) (aCall (fid := 93) (args := [.int .u64 x0, .int .u64 x1]) (d := 25) hf25 (by kernel_rfl) (by kernel_rfl) callable93 (bits_Mul64.calls _ _ x0 x1 (hm0.give [] [] rfl rfl) r23 hr23) ?_)
  rintro _ w26 a27 ⟨rfl, hk29⟩ hf28
  have hm30 := hm0.still hk29.cum.none
  refine go 5 [] [8, 9] [(8, .int .u64 r23.1), (9, .int .u64 r23.2)] [] hf28 (by kernel_rfl) trivial fun a31 hf32 => ?_
  refine endL rfl ?_
  refine thenN ?_
  refine wp_seq ?_
  refine reg [] [4, 5] [(4, .int .u64 r23.1), (5, .int .u64 r23.2)] [] hf32 (by kernel_rfl) trivial fun a33 hf34 => ?_
  refine thenN ?_
  refine wp_ret ?_
  have hm35 : Mem [] M w0 [] w26 := hm30.sel [] _ rfl (by kernel_rfl)
  obtain rfl := Option.some.inj H0
  refine ret [] [.int .u64 r23.1, .int .u64 r23.2] [] hf34 (by kernel_rfl) trivial ?_
  exact ⟨_, rfl, rfl, hm35⟩

/-! ### slices.Repeat[[]float64,float64] -/
noncomputable def slices_Repeat_float64.l0  (s75 : (Int × (List Nat))) : Step (Int × (List Nat)) (Int × (List Nat)) :=
  if s75.1 < (s75.2.length : Int) then (if 0 ≤ s75.1 ∧ s75.1 ≤ (s75.2.length : Int) then (.next ((w64 (s75.1 + ((List.take (min ((s75.1).toNat - 0) (s75.2.length - (s75.1).toNat)) s75.2).length : Int))), (cpy s75.2 ((s75.1).toNat) (List.take (min ((s75.1).toNat - 0) (s75.2.length - (s75.1).toNat)) s75.2))))
  else .bad)
  else (.done (s75.1, s75.2))
noncomputable def slices_Repeat_float64.f (x0 : (List Nat)) (x1 : Int) : Option (List Nat) :=
  if x1 < 0 then none
  else ((bits_Mul.f (IntKind.wrap .u64 ((x0.length : Int))) (IntKind.wrap .u64 (x1))).bind fun r28 =>
  if 0 < r28.1 then none
  else (if 9223372036854775807 < r28.2 then none
  else (if 0 ≤ (w64 (r28.2)) ∧ (w64 (r28.2)) ≤ 1099511627776 then ((loop (slices_Repeat_float64.l0) (((List.take ((List.replicate ((w64 (r28.2))).toNat (0 : Nat)).length) x0).length : Int), (cpy (List.replicate ((w64 (r28.2))).toNat (0 : Nat)) 0 (List.take ((List.replicate ((w64 (r28.2))).toNat (0 : Nat)).length) x0)))).bind fun r76 =>
  some r76.2)
  else none)))
set_option maxRecDepth 100000 in
set_option maxHeartbeats 4000000 in
theorem slices_Repeat_float64.calls (M : List (Option Nat)) (w0 : World) (x0 : (List Nat)) (A0 : Option Addr) (n0 c0 : Nat) (e0 : n0 = x0.length) (x1 : Int) (hm0 : Mem [] M w0 [.sl Kd.float A0 c0 x0] w0) (r : (List Nat)) (H0 : slices_Repeat_float64.f x0 x1 = some r) :
    Calls Try.prog 59 [.slice A0 n0 c0, .int .i64 x1].toArray w0 (fun x w' => ∃ v, x = .returned v ∧ ∃ Ar0 cr0, v = .slice Ar0 r.length cr0 ∧ Mem [] M w0 [.ow Kd.float 44 Ar0 cr0 r] w') := by
  subst e0
  unfold slices_Repeat_float64.f at H0
  refine enter (n := 48) Try.func59 rfl rfl (by kernel_rfl) fun a0 (hf0 : Fr 48 a0 [(0, .slice A0 x0.length c0), (1, .int .i64 x1)]) => ?_
  refine wp_seq ?_
  refine reg [] [0, 1] [(0, .slice A0 x0.length c0), (1, .int .i64 x1)] [] hf0 (by kernel_rfl) trivial fun a21 hf22 => ?_
  refine thenN ?_
  refine wp_seq ?_
  refine wp_seq ?_
  rcases if_split H0 with ⟨c23, H0⟩ | ⟨c23, H0⟩
  · refine reg [.bool true] [0, 1, 10] [(0, .slice A0 x0.length c0), (1, .int .i64 x1), (10, .bool true)] [.is (decide (x1 < 0) = true)] hf22 (by kernel_rfl) ⟨(decide_eq_true c23), trivial⟩ fun a24 hf25 => ?_
    refine thenN ?_
    refine condT hf25 (by kernel_rfl) ?_
    exact absurd H0 (by simp [Step.go])
  refine reg [.bool false] [0, 1, 10] [(0, .slice A0 x0.length c0), (1, .int .i64 x1), (10, .bool false)] [.is (decide (x1 < 0) = false)] hf22 (by kernel_rfl) ⟨(decide_eq_false c23), trivial⟩ fun a26 hf27 => ?_
  refine thenN ?_
  refine condF hf27 (by kernel_rfl) ?_
  refine wp_skip ?_
  refine thenN ?_
  refine wp_seq ?_
  obtain ⟨r28, hr28, H0⟩ := ob_split H0
  refine inReg ?_
  refine go 5 [] [0, 15, 17] [(0, .slice A0 x0.length c0), (15, .int .u64 (IntKind.wrap .u64 ((x0.length : Int)))), (17, .int .u64 (IntKind.wrap .u64 (x1)))] [] hf27 (by kernel_rfl) trivial fun a29 hf30 => ?_
  refine listOf hf30 rfl (by kernel_rfl) (aCall (fid := 81) (args := [.int .u64 (IntKind.wrap .u64 ((x0.length : Int))), .int .u64 (IntKind.wrap .u64 (x1))]) (d := 18) hf30 (by kernel_rfl) (by kernel_rfl) callable81 (bits_Mul.calls _ _ (IntKind.wrap .u64 ((x0.length : Int))) (IntKind.wrap .u64 (x1)) (hm0.give [] [] rfl rfl) r28 hr28) ?_)
  rintro _ w31 a32 ⟨rfl, hk34⟩ hf33
  have hm35 := hm0.still hk34.cum.none
  refine go 5 [] [0, 5, 6] [(0, .slice A0 x0.length c0), (5, .int .u64 r28.1), (6, .int .u64 r28.2)] [] hf33 (by kernel_rfl) trivial fun a36 hf37 => ?_
  refine endL rfl ?_
  refine thenN ?_
  refine wp_seq ?_
  refine wp_seq ?_
  rcases if_split H0 with ⟨c38, H0⟩ | ⟨c38, H0⟩
  · refine reg [.bool true] [0, 6, 26] [(0, .slice A0 x0.length c0), (6, .int .u64 r28.2), (26, .bool true)] [.is (decide (0 < r28.1) = true)] hf37 (by kernel_rfl) ⟨(decide_eq_true c38), trivial⟩ fun a39 hf40 => ?_
    refine thenN ?_
    refine condT hf40 (by kernel_rfl) ?_
    exact absurd H0 (by simp [Step.go])
  rcases if_split H0 with ⟨c41, H0⟩ | ⟨c41, H0⟩
  · refine reg [.bool false, .bool true] [0, 6, 26] [(0, .slice A0 x0.length c0), (6, .int .u64 r28.2), (26, .bool true)] [.is (decide (0 < r28.1) = false), .is (decide (9223372036854775807 < r28.2) = true)] hf37 (by kernel_rfl) ⟨(decide_eq_false c38), (decide_eq_true c41), trivial⟩ fun a42 hf43 => ?_
    refine thenN ?_
    refine condT hf43 (by kernel_rfl) ?_
    exact absurd H0 (by simp [Step.go])
  refine reg [.bool false, .bool false] [0, 6, 26] [(0, .slice A0 x0.length c0), (6, .int .u64 r28.2), (26, .bool false)] [.is (decide (0 < r28.1) = false), .is (decide (9223372036854775807 < r28.2) = false)] hf37 (by kernel_rfl) ⟨(decide_eq_false c38), (decide_eq_false c41), trivial⟩ fun a44 hf45 => ?_
  refine thenN ?_
  refine condF hf45 (by kernel_rfl) ?_
  refine wp_skip ?_
  refine thenN ?_
  refine wp_seq ?_
  obtain ⟨g46, H0⟩ := if_guard H0
  refine inReg ?_
  refine go 2 [] [0, 29] [(0, .slice A0 x0.length c0), (29, .int .i64 (w64 (r28.2)))] [] hf45 (by kernel_rfl) trivial fun a47 hf48 => ?_
  refine listOf hf48 rfl (by kernel_rfl) (aMake (kd := Kd.float) (x := 0) (E := 44) (L := (w64 (r28.2))) (z := [.float .f64 0]) (sz := 1) (d := 30) hf48 (by kernel_rfl) (by kernel_rfl) rfl (fun _ _ => ⟨0, rfl, FR.lit (by kernel_rfl) (by kernel_rfl)⟩) g46.1 g46.2 ?_)
  intro A49 c50 w51 a52 ho54 hb56 hg55 hf53
  have hm57 : Mem [] M w0 [.ow Kd.float 44 A49 c50 (List.replicate ((w64 (r28.2))).toNat (0 : Nat)), .sl Kd.float A0 c0 x0] w51 := hm35.own (ho54 _) hg55
  refine go 1 [] [0, 7] [(0, .slice A0 x0.length c0), (7, .slice A49 ((List.replicate ((w64 (r28.2))).toNat (0 : Nat)).length) c50)] [] hf53 (by kernel_rfl) trivial fun a58 hf59 => ?_
  refine endL rfl ?_
  refine thenN ?_
  refine wp_seq ?_
  refine inReg ?_
  refine go 2 [] [7, 31, 32] [(7, .slice A49 ((List.replicate ((w64 (r28.2))).toNat (0 : Nat)).length) c50), (31, .slice A49 ((List.replicate ((w64 (r28.2))).toNat (0 : Nat)).length) c50), (32, .slice A0 x0.length c0)] [] hf59 (by kernel_rfl) trivial fun a60 hf61 => ?_
  refine listOf hf61 rfl (by kernel_rfl) (aCopy (kd := Kd.float) (base := 0) (E := 44) (A := A49) (B := A0) (D := A49) (c := c50) (lo := 0) (dn := ((List.replicate ((w64 (r28.2))).toNat (0 : Nat)).length)) (dc := c50) (sn := x0.length) (sc := c0) (xs := (List.replicate ((w64 (r28.2))).toNat (0 : Nat))) (ys := (List.take ((List.replicate ((w64 (r28.2))).toNat (0 : Nat)).length) x0)) (d := 33) hf61 (by kernel_rfl) (.inr ⟨rfl, rfl⟩) (by kernel_rfl) rfl (hm57.at 0 rfl) (by rw [Nat.zero_add, show (List.replicate ((w64 (r28.2))).toNat (0 : Nat)).length = (List.replicate ((w64 (r28.2))).toNat (0 : Nat)).length from rfl]; exact Nat.le_refl _) (Src.sl rfl (hm57.at2 0 1 rfl rfl).2 ((List.replicate ((w64 (r28.2))).toNat (0 : Nat)).length)) (by rw [List.length_take, ← (show x0.length = x0.length from rfl)]; show _ = min _ _; omega) ?_)
  intro w62 a63 ho66 hg67 hf65
  have e68 : (cpy (List.replicate ((w64 (r28.2))).toNat (0 : Nat)) 0 (List.take ((List.replicate ((w64 (r28.2))).toNat (0 : Nat)).length) x0)).length = (List.replicate ((w64 (r28.2))).toNat (0 : Nat)).length := cpy_length (by have := Nat.le_refl 0; have := Nat.le_refl 0; simp only [List.length_take]; omega)
  have hf69 : Fr 48 a63 [(7, .slice A49 ((List.replicate ((w64 (r28.2))).toNat (0 : Nat)).length) c50), (31, .slice A49 ((List.replicate ((w64 (r28.2))).toNat (0 : Nat)).length) c50), (32, .slice A0 x0.length c0), (33, .int .i64 ((List.take ((List.replicate ((w64 (r28.2))).toNat (0 : Nat)).length) x0).length : Int))] := hf65.sel (l := [7, 31, 32, 33]) (by kernel_rfl)
  have hf70 : Fr 48 a63 [(7, .slice A49 ((cpy (List.replicate ((w64 (r28.2))).toNat (0 : Nat)) 0 (List.take ((List.replicate ((w64 (r28.2))).toNat (0 : Nat)).length) x0)).length) c50), (31, .slice A49 ((cpy (List.replicate ((w64 (r28.2))).toNat (0 : Nat)) 0 (List.take ((List.replicate ((w64 (r28.2))).toNat (0 : Nat)).length) x0)).length) c50), (32, .slice A0 x0.length c0), (33, .int .i64 ((List.take ((List.replicate ((w64 (r28.2))).toNat (0 : Nat)).length) x0).length : Int))] := by simpa only [e68] using hf69
  have hm71 := hm57.setOwn 0 _ rfl rfl ho66 hg67 (.inl rfl)
  refine go 1 [] [7, 8] [(7, .slice A49 ((cpy (List.replicate ((w64 (r28.2))).toNat (0 : Nat)) 0 (List.take ((List.replicate ((w64 (r28.2))).toNat (0 : Nat)).length) x0)).length) c50), (8, .int .i64 ((List.take ((List.replicate ((w64 (r28.2))).toNat (0 : Nat)).length) x0).length : Int))] [] hf70 (by kernel_rfl) trivial fun a72 hf73 => ?_
  refine endL rfl ?_
  have hm74 := hm71.sel [0] _ rfl (by kernel_rfl)
  refine thenN ?_
  refine wp_seq ?_
  obtain ⟨r76, hr76, H0⟩ := ob_split H0
  refine wpBlock (Mid := fun (a : Act) (w : World) => Fr 48 a [(7, .slice A49 r76.2.length c50), (8, .int .i64 r76.1)] ∧ Mem [] M w0 [.ow Kd.float 44 A49 c50 r76.2] w) ?_ ?_
  · refine wpLoop (slices_Repeat_float64.l0) r76 (fun (s75 : (Int × (List Nat))) (a : Act) (w : World) => Fr 48 a [(7, .slice A49 s75.2.length c50), (8, .int .i64 s75.1)] ∧ Mem [] M w0 [.ow Kd.float 44 A49 c50 s75.2] w) (((List.take ((List.replicate ((w64 (r28.2))).toNat (0 : Nat)).length) x0).length : Int), (cpy (List.replicate ((w64 (r28.2))).toNat (0 : Nat)) 0 (List.take ((List.replicate ((w64 (r28.2))).toNat (0 : Nat)).length) x0))) hr76 ⟨hf73.sel (l := [7, 8]) (by kernel_rfl), hm74.sel [0] _ rfl (by kernel_rfl)⟩ ?_
    rintro g77 s75 a78 w79 H1 ⟨hf80, hm81⟩
    unfold slices_Repeat_float64.l0 at H1
    refine wp_seq ?_
    refine wp_seq ?_
    rcases ifS_split H1 with ⟨c82, H1⟩ | ⟨c82, H1⟩
    rotate_left
    · refine reg [.bool false] [7, 8, 37] [(7, .slice A49 s75.2.length c50), (8, .int .i64 s75.1), (37, .bool false)] [.is (decide (s75.1 < (s75.2.length : Int)) = false)] hf80 (by kernel_rfl) ⟨(decide_eq_false c82), trivial⟩ fun a134 hf135 => ?_
      refine thenN ?_
      refine condF hf135 (by kernel_rfl) ?_
      refine wp_exit ?_
      refine thenE ?_
      refine thenE ?_
      obtain rfl := Option.some.inj H1
      exact .inl ⟨rfl, hf135.sel (l := [7, 8]) (by kernel_rfl), hm81.sel [0] _ rfl (by kernel_rfl)⟩
    refine reg [.bool true] [7, 8, 37] [(7, .slice A49 s75.2.length c50), (8, .int .i64 s75.1), (37, .bool true)] [.is (decide (s75.1 < (s75.2.length : Int)) = true)] hf80 (by kernel_rfl) ⟨(decide_eq_true c82), trivial⟩ fun a83 hf84 => ?_
    refine thenN ?_
    refine condT hf84 (by kernel_rfl) ?_
    refine wp_skip ?_
    refine thenN ?_
    refine wp_block ?_
    obtain ⟨g85, H1⟩ := ifS_guard H1
    refine midReg (fun (a : Act) (w : World) => Fr 48 a [(7, .slice A49 ((cpy s75.2 ((s75.1).toNat) (List.take (min ((s75.1).toNat - 0) (s75.2.length - (s75.1).toNat)) s75.2)).length) c50), (8, .int .i64 (w64 (s75.1 + ((List.take (min ((s75.1).toNat - 0) (s75.2.length - (s75.1).toNat)) s75.2).length : Int))))] ∧ Mem [] M w0 [.ow Kd.float 44 A49 c50 (cpy s75.2 ((s75.1).toNat) (List.take (min ((s75.1).toNat - 0) (s75.2.length - (s75.1).toNat)) s75.2))] w) ?_ ?_
    · refine anyG [7] (by kernel_rfl) fun w97 hg98 => ?_
      have hm99 := hm81.still hg98
      have e115 : s75.2.length = s75.2.length := rfl
      have e115p : (s75.1).toNat + (s75.2.length - (s75.1).toNat) ≤ s75.2.length := by omega
      have e116 : s75.2.length = s75.2.length := rfl
      have e116p : 0 + ((s75.1).toNat - 0) ≤ s75.2.length := by omega
      refine quiet0 [0, 1, 2, 3, 4, 5, 6] [] [7, 8, 38, 41, 44] #[true, true, true, true, true, true, true, false, false, false] [(7, .slice A49 s75.2.length c50), (8, .int .i64 s75.1), (38, .int .i64 s75.1), (41, .slice (sub A49 c50 ((s75.1).toNat) 1) (s75.2.length - (s75.1).toNat) (c50 - (s75.1).toNat)), (44, .slice (sub A49 c50 0 1) ((s75.1).toNat - 0) (c50 - 0))] [.is (0 ≤ s75.1 ∧ s75.1 ≤ (s75.2.length : Int)), .is (0 ≤ s75.1 ∧ s75.1 ≤ (c50 : Int))] 3 rfl (by kernel_rfl) (fun _ _ _ _ _ h => nomatch h.1) hf84 (by kernel_rfl) ⟨g85, (sub_cap rfl (hm99.cpOw 0 rfl) g85), trivial⟩ fun a117 hf118 => ?_
      refine all1 7 (by kernel_rfl) ?_
      refine opOf hf118 rfl (by kernel_rfl) (aCopy (kd := Kd.float) (base := 0) (E := 44) (A := A49) (B := (sub A49 c50 0 1)) (D := (sub A49 c50 ((s75.1).toNat) 1)) (c := c50) (lo := ((s75.1).toNat)) (dn := (s75.2.length - (s75.1).toNat)) (dc := (c50 - (s75.1).toNat)) (sn := ((s75.1).toNat - 0)) (sc := (c50 - 0)) (xs := s75.2) (ys := (List.take (min ((s75.1).toNat - 0) (s75.2.length - (s75.1).toNat)) s75.2)) (d := 45) hf118 (by kernel_rfl) (.inl rfl) (by kernel_rfl) rfl (hm99.at 0 rfl) e115p ((Src.ow rfl (hm99.at 0 rfl) (min ((s75.1).toNat - 0) (s75.2.length - (s75.1).toNat))).sub0 _ _) (by have := e116p; rw [List.length_take]; show _ = min _ _; omega) ?_)
      intro w119 a120 ho122 hg123 hf121
      refine ⟨.inl (by decide), ?_⟩
      have e124 : (cpy s75.2 ((s75.1).toNat) (List.take (min ((s75.1).toNat - 0) (s75.2.length - (s75.1).toNat)) s75.2)).length = s75.2.length := cpy_length (by have := e115p; have := Nat.le_refl 0; simp only [List.length_take]; omega)
      have hf125 : Fr 48 a120 [(7, .slice A49 s75.2.length c50), (8, .int .i64 s75.1), (38, .int .i64 s75.1), (45, .int .i64 ((List.take (min ((s75.1).toNat - 0) (s75.2.length - (s75.1).toNat)) s75.2).length : Int))] := hf121.sel (l := [7, 8, 38, 45]) (by kernel_rfl)
      have hf126 : Fr 48 a120 [(7, .slice A49 ((cpy s75.2 ((s75.1).toNat) (List.take (min ((s75.1).toNat - 0) (s75.2.length - (s75.1).toNat)) s75.2)).length) c50), (8, .int .i64 s75.1), (38, .int .i64 s75.1), (45, .int .i64 ((List.take (min ((s75.1).toNat - 0) (s75.2.length - (s75.1).toNat)) s75.2).length : Int))] := by simpa only [e124] using hf125
      have hm127 := hm99.setOwn 0 _ rfl rfl ho122 hg123 (.inl rfl)
      refine quiet0 [8, 9] [] [7, 8] #[true, true, true, true, true, true, true, true, true, true] [(7, .slice A49 ((cpy s75.2 ((s75.1).toNat) (List.take (min ((s75.1).toNat - 0) (s75.2.length - (s75.1).toNat)) s75.2)).length) c50), (8, .int .i64 (w64 (s75.1 + ((List.take (min ((s75.1).toNat - 0) (s75.2.length - (s75.1).toNat)) s75.2).length : Int))))] [] 0 rfl (by kernel_rfl) (fun _ _ _ _ _ h => nomatch h.1) hf126 (by kernel_rfl) trivial fun a128 hf129 => ?_
      refine allDone (by kernel_rfl) ⟨rfl, hf129.sel (l := [7, 8]) (by kernel_rfl), hm127.sel [0] _ rfl (by kernel_rfl)⟩
    rintro a130 w131 ⟨hf132, hm133⟩
    refine blkN ?_
    exact ⟨((w64 (s75.1 + ((List.take (min ((s75.1).toNat - 0) (s75.2.length - (s75.1).toNat)) s75.2).length : Int))), (cpy s75.2 ((s75.1).toNat) (List.take (min ((s75.1).toNat - 0) (s75.2.length - (s75.1).toNat)) s75.2))), H1, hf132.sel (l := [7, 8]) (by kernel_rfl), hm133.sel [0] _ rfl (by kernel_rfl)⟩
  rintro a136 w137 ⟨hf138, hm139⟩
  refine thenN ?_
  refine wp_seq ?_
  refine reg [] [4] [(4, .slice A49 r76.2.length c50)] [] hf138 (by kernel_rfl) trivial fun a140 hf141 => ?_
  refine thenN ?_
  refine wp_ret ?_
  have hm142 : Mem [] M w0 [.ow Kd.float 44 A49 c50 r76.2] w137 := hm139.sel [0] _ rfl (by kernel_rfl)
  obtain rfl := Option.some.inj H0
  refine ret [] [.slice A49 r76.2.length c50] [] hf141 (by kernel_rfl) trivial ?_
  exact ⟨_, rfl, A49, c50, rfl, hm142⟩

/-! ### backstitch/tensor.New -/
noncomputable def tensor_New.f (x0 : (List Int)) (x1 : Nat) : Option (Tensor × Int) :=
  (shape_Size.f x0).bind fun r30 =>
  if r30.2 = 0 then ((slices_Clone_int.f x0).bind fun r43 =>
  (slices_Repeat_float64.f ([x1] : List Nat) r30.1).bind fun r44 =>
  some ((⟨r43, r44⟩ : Tensor), 0))
  else (some ((⟨([] : (List Int)), ([] : (List Nat))⟩ : Tensor), r30.2))
set_option maxRecDepth 100000 in
set_option maxHeartbeats 4000000 in
theorem tensor_New.calls (M : List (Option Nat)) (w0 : World) (x0 : (List Int)) (A0 : Option Addr) (n0 c0 : Nat) (e0 : n0 = x0.length) (x1 : Nat) (b1 : Nat) (h1 : FR b1 x1) (hm0 : Mem [] M w0 [.sl (Kd.int .i64) A0 c0 x0] w0) (r : (Tensor × Int)) (H0 : tensor_New.f x0 x1 = some r) :
    Calls Try.prog 27 [.slice A0 n0 c0, .float .f64 b1].toArray w0 (fun x w' => ∃ v, x = .returned v ∧ ∃ Ar0_0 cr0_0 Ar0_1 cr0_1, v = .tuple #[.agg #[.slice Ar0_0 r.1.Shape.length cr0_0, .slice Ar0_1 r.1.Data.length cr0_1], .int .i64 r.2] ∧ Mem [] M w0 [.ow (Kd.int .i64) 3 Ar0_0 cr0_0 r.1.Shape, .ow Kd.float 44 Ar0_1 cr0_1 r.1.Data] w') := by
  subst e0
  unfold tensor_New.f at H0
  refine enter (n := 24) Try.func27 rfl rfl (by kernel_rfl) fun a0 (hf0 : Fr 24 a0 [(0, .slice A0 x0.length c0), (1, .float .f64 b1)]) => ?_
  refine wp_seq ?_
  refine inReg ?_
  refine listOf hf0 rfl (by kernel_rfl) (aNew (cs := [.slice none 0 0, .slice none 0 0]) (T := 28) (d := 4) hf0 (by kernel_rfl) (by kernel_rfl) ?_)
  intro b21 w22 a23 hbb21 hx25 hg26 hf24
  have hm27 := hm0.box hbb21 hx25 hg26
  refine go 1 [] [0, 1, 4] [(0, .slice A0 x0.length c0), (1, .float .f64 b1), (4, .pointer (some ⟨b21, 0, none⟩))] [] hf24 (by kernel_rfl) trivial fun a28 hf29 => ?_
  refine endL rfl ?_
  refine thenN ?_
  refine wp_seq ?_
  obtain ⟨r30, hr30, H0⟩ := ob_split H0
  refine inReg ?_
  refine go 1 [] [0, 1, 4, 9] [(0, .slice A0 x0.length c0), (1, .float .f64 b1), (4, .pointer (some ⟨b21, 0, none⟩)), (9, .slice A0 x0.length c0)] [] hf29 (by kernel_rfl) trivial fun a31 hf32 => ?_
  refine listOf hf32 rfl (by kernel_rfl) (aCall (fid := 53) (args := [.slice A0 x0.length c0]) (d := 10) hf32 (by kernel_rfl) (by kernel_rfl) callable53 (shape_Size.calls _ _ x0 A0 x0.length c0 rfl (hm27.give [1] [.sl (Kd.int .i64) A0 c0 x0] rfl rfl) r30 hr30) ?_)
  rintro _ w33 a34 ⟨rfl, hk36⟩ hf35
  have hm37 := hm27.still hk36.cum.none
  refine go 5 [] [0, 1, 4, 6, 7] [(0, .slice A0 x0.length c0), (1, .float .f64 b1), (4, .pointer (some ⟨b21, 0, none⟩)), (6, .int .i64 r30.1), (7, .int .i64 r30.2)] [] hf35 (by kernel_rfl) trivial fun a38 hf39 => ?_
  refine endL rfl ?_
  refine thenN ?_
  refine wp_seq ?_
  refine wp_seq ?_
  rcases if_split H0 with ⟨c40, H0⟩ | ⟨c40, H0⟩
  rotate_left
  · refine reg [.bool true] [0, 1, 4, 6, 7, 14] [(0, .slice A0 x0.length c0), (1, .float .f64 b1), (4, .pointer (some ⟨b21, 0, none⟩)), (6, .int .i64 r30.1), (7, .int .i64 r30.2), (14, .bool true)] [.is (((r30.2 : Int) != 0) = true)] hf39 (by kernel_rfl) ⟨(neT c40), trivial⟩ fun a84 hf85 => ?_
    refine thenN ?_
    refine condT hf85 (by kernel_rfl) ?_
    refine wp_seq ?_
    refine inReg ?_
    refine go 2 [] [4, 15, 16] [(4, .pointer (some ⟨b21, 0, none⟩)), (15, .agg #[.slice none 0 0, .slice none 0 0]), (16, .int .i64 r30.2)] [] hf85 (by kernel_rfl) trivial fun a86 hf87 => ?_
    refine listOf hf87 rfl (by kernel_rfl) (aStoreB (b := b21) (j := 0) (T := 28) (cs := [.slice none 0 0, .slice none 0 0]) (us := [.slice none 0 0, .slice none 0 0]) (cs' := [.slice none 0 0, .slice none 0 0]) hf87 (by kernel_rfl) (hm37.bxAt 0 rfl) (by kernel_rfl) (by kernel_rfl) (by kernel_rfl) ?_)
    intro w88 hx89 hg90
    have hm91 := hm37.setBox 0 _ rfl rfl hx89 hg90
    refine go 1 [] [4, 5] [(4, .pointer (some ⟨b21, 0, none⟩)), (5, .int .i64 r30.2)] [] hf87 (by kernel_rfl) trivial fun a92 hf93 => ?_
    refine endL rfl ?_
    have hm94 := hm91.sel [0] _ rfl (by kernel_rfl)
    refine thenN ?_
    refine wp_ret ?_
    refine thenR ?_
    have hm95 := hm94.nilOw (Kd.int .i64) 3
    have hm96 := hm95.nilOw Kd.float 44
    have hm97 : Mem [] M w0 [.ow (Kd.int .i64) 3 none 0 ([] : (List Int)), .ow Kd.float 44 none 0 ([] : (List Nat))] w88 := hm96.sel [1, 0] _ rfl (by kernel_rfl)
    obtain rfl := Option.some.inj H0
    refine ret [.agg #[.slice none 0 0, .slice none 0 0]] [.agg #[.slice none 0 0, .slice none 0 0], .int .i64 r30.2] [.cell ⟨b21, 0, none⟩ (.slice none 0 0), .cell ⟨b21, 1, none⟩ (.slice none 0 0)] hf93 (by kernel_rfl) ⟨(hm94.cell 0 rfl rfl), (hm94.cell 0 rfl rfl), trivial⟩ ?_
    exact ⟨_, rfl, none, 0, none, 0, rfl, hm97⟩
  refine reg [.bool false] [0, 1, 4, 6, 7, 14] [(0, .slice A0 x0.length c0), (1, .float .f64 b1), (4, .pointer (some ⟨b21, 0, none⟩)), (6, .int .i64 r30.1), (7, .int .i64 r30.2), (14, .bool false)] [.is (((r30.2 : Int) != 0) = false)] hf39 (by kernel_rfl) ⟨(neF c40), trivial⟩ fun a41 hf42 => ?_
  refine thenN ?_
  refine condF hf42 (by kernel_rfl) ?_
  refine wp_skip ?_
  refine thenN ?_
  refine wp_seq ?_
  obtain ⟨r43, hr43, H0⟩ := ob_split H0
  obtain ⟨r44, hr44, H0⟩ := ob_split H0
  refine inReg ?_
  refine go 1 [] [1, 4, 6, 17] [(1, .float .f64 b1), (4, .pointer (some ⟨b21, 0, none⟩)), (6, .int .i64 r30.1), (17, .slice A0 x0.length c0)] [] hf42 (by kernel_rfl) trivial fun a45 hf46 => ?_
  refine listOf hf46 rfl (by kernel_rfl) (aCall (fid := 54) (args := [.slice A0 x0.length c0]) (d := 18) hf46 (by kernel_rfl) (by kernel_rfl) callable54 (slices_Clone_int.calls _ _ x0 A0 x0.length c0 rfl (hm37.give [1] [.sl (Kd.int .i64) A0 c0 x0] rfl rfl) r43 hr43) ?_)
  rintro _ w49 a50 ⟨A47, c48, rfl, hk52⟩ hf51
  have hm53 := hm37.back hk52
  refine go 1 [] [4, 6, 18, 19] [(4, .pointer (some ⟨b21, 0, none⟩)), (6, .int .i64 r30.1), (18, .slice A47 r43.length c48), (19, .float .f64 b1)] [] hf51 (by kernel_rfl) trivial fun a54 hf55 => ?_
  refine listOf hf55 rfl (by kernel_rfl) (aLit (cs := [.float .f64 b1]) (E := 44) (len := 1) (d := 20) hf55 (by kernel_rfl) (by kernel_rfl) ?_)
  intro b56 w57 a58 hbb56 hx60 hg61 hf59
  have hm53s := hm53.still hg61
  have hm62 := Mem.lit (kd := Kd.float) (xs := ([x1] : List Nat)) hm53 hbb56 hx60 hg61 (Els.one (kd := Kd.float) (us := [.float .f64 b1]) (x := x1) ⟨_, rfl, h1⟩)
  refine go 1 [] [4, 18, 20, 21] [(4, .pointer (some ⟨b21, 0, none⟩)), (18, .slice A47 r43.length c48), (20, .slice (some ⟨b56, 0, none⟩) 1 1), (21, .int .i64 r30.1)] [] hf59 (by kernel_rfl) trivial fun a63 hf65 => ?_
  refine listOf hf65 rfl (by kernel_rfl) (aCall (fid := 59) (args := [.slice (some ⟨b56, 0, none⟩) 1 1, .int .i64 r30.1]) (d := 22) hf65 (by kernel_rfl) (by kernel_rfl) callable59 (slices_Repeat_float64.calls _ _ ([x1] : List Nat) (some ⟨b56, 0, none⟩) 1 1 rfl r30.1 (hm62.give [0] [.sl Kd.float (some ⟨b56, 0, none⟩) 1 ([x1] : List Nat)] rfl rfl) r44 hr44) ?_)
  rintro _ w68 a69 ⟨A66, c67, rfl, hk71⟩ hf70
  have hm72 := hm62.back hk71
  refine go 1 [] [4, 23] [(4, .pointer (some ⟨b21, 0, none⟩)), (23, .agg #[.slice A47 r43.length c48, .slice A66 r44.length c67])] [] hf70 (by kernel_rfl) trivial fun a73 hf74 => ?_
  refine listOf hf74 rfl (by kernel_rfl) (aStoreB (b := b21) (j := 0) (T := 28) (cs := [.slice none 0 0, .slice none 0 0]) (us := [.slice A47 r43.length c48, .slice A66 r44.length c67]) (cs' := [.slice A47 r43.length c48, .slice A66 r44.length c67]) hf74 (by kernel_rfl) (hm72.bxAt 3 rfl) (by kernel_rfl) (by kernel_rfl) (by kernel_rfl) ?_)
  intro w75 hx76 hg77
  have hm78 := hm72.setBox 3 _ rfl rfl hx76 hg77
  refine go 1 [] [4, 5] [(4, .pointer (some ⟨b21, 0, none⟩)), (5, .int .i64 0)] [] hf74 (by kernel_rfl) trivial fun a79 hf80 => ?_
  refine endL rfl ?_
  have hm81 := hm78.sel [0, 2, 3] _ rfl (by kernel_rfl)
  refine thenN ?_
  refine wp_ret ?_
  have hm82 : Mem [] M w0 [.ow (Kd.int .i64) 3 A47 c48 r43, .ow Kd.float 44 A66 c67 r44] w75 := hm81.sel [1, 0] _ rfl (by kernel_rfl)
  obtain rfl := Option.some.inj H0
  refine ret [.agg #[.slice A47 r43.length c48, .slice A66 r44.length c67]] [.agg #[.slice A47 r43.length c48, .slice A66 r44.length c67], .int .i64 0] [.cell ⟨b21, 0, none⟩ (.slice A47 r43.length c48), .cell ⟨b21, 1, none⟩ (.slice A66 r44.length c67)] hf80 (by kernel_rfl) ⟨(hm81.cell 2 rfl rfl), (hm81.cell 2 rfl rfl), trivial⟩ ?_
  exact ⟨_, rfl, A47, c48, A66, c67, rfl, hm82⟩

/-! ### (backstitch/real.Real).Plus -/
noncomputable def real_Real_Plus.f (x0 : Nat) (x1 : Nat) : Option Nat :=
  some (fadd x0 x1)
set_option maxRecDepth 100000 in
set_option maxHeartbeats 4000000 in
theorem real_Real_Plus.calls (M : List (Option Nat)) (w0 : World) (x0 : Nat) (b0 : Nat) (h0 : FR b0 x0) (x1 : Nat) (b1 : Nat) (h1 : FR b1 x1) (hm0 : Mem [] M w0 [] w0) (r : Nat) (H0 : real_Real_Plus.f x0 x1 = some r) :
    Calls Try.prog 78 [.float .f64 b0, .float .f64 b1].toArray w0 (fun x w' => ∃ v, x = .returned v ∧ ∃ br0, v = .float .f64 br0 ∧ FR br0 r ∧ Mem [] M w0 [] w') := by
  unfold real_Real_Plus.f at H0
  refine enter (n := 8) Try.func78 rfl rfl (by kernel_rfl) fun a0 (hf0 : Fr 8 a0 [(0, .float .f64 b0), (1, .float .f64 b1)]) => ?_
  refine wp_seq ?_
  refine reg [] [0, 1] [(0, .float .f64 b0), (1, .float .f64 b1)] [] hf0 (by kernel_rfl) trivial fun a21 hf22 => ?_
  refine thenN ?_
  refine wp_seq ?_
  refine inReg ?_
  refine go 2 [] [5, 6] [(5, .float .f64 b0), (6, .float .f64 b1)] [] hf22 (by kernel_rfl) trivial fun a23 hf24 => ?_
  refine listOf hf24 rfl (by kernel_rfl) (aArith (k := 0) (b := b0) (c := b1) (x := x0) (y := x1) (d := 7) hf24 (by kernel_rfl) (by kernel_rfl) h0 h1 ?_)
  intro b25 w26 a27 hb25 hg29 hf28
  replace hb25 : FR b25 (fadd x0 x1) := hb25
  have hm30 := hm0.still hg29
  refine go 1 [] [4] [(4, .float .f64 b25)] [] hf28 (by kernel_rfl) trivial fun a31 hf32 => ?_
  refine endL rfl ?_
  refine thenN ?_
  refine wp_ret ?_
  have hm33 : Mem [] M w0 [] w26 := hm30.sel [] _ rfl (by kernel_rfl)
  obtain rfl := Option.some.inj H0
  refine ret [] [.float .f64 b25] [] hf32 (by kernel_rfl) trivial ?_
  exact ⟨_, rfl, b25, rfl, hb25, hm33⟩

/-! ### backstitch/real.halves -/
noncomputable def real_halves_real_Real_Plus.F : Nat → (List Nat) → Option Nat
  | 0, _ => none
  | k + 1, x0 =>
  if (x0.length : Int) = 1 then (if (0 : Int) ≤ 0 ∧ 0 < (x0.length : Int) then (some (rd x0 0))
  else none)
  else (if 0 ≤ (w64 (Int.tdiv (w64 ((x0.length : Int) + 1)) 2)) ∧ (w64 (Int.tdiv (w64 ((x0.length : Int) + 1)) 2)) ≤ (x0.length : Int) then ((real_halves_real_Real_Plus.F k ((List.take (((w64 (Int.tdiv (w64 ((x0.length : Int) + 1)) 2))).toNat) x0).drop 0)).bind fun r39 =>
  (real_halves_real_Real_Plus.F k ((List.take x0.length x0).drop (((w64 (Int.tdiv (w64 ((x0.length : Int) + 1)) 2))).toNat))).bind fun r40 =>
  (real_Real_Plus.f r39 r40).bind fun r41 =>
  some r41)
  else none)
set_option maxRecDepth 100000 in
set_option maxHeartbeats 4000000 in
theorem real_halves_real_Real_Plus.callsF (k : Nat) : ∀ (M : List (Option Nat)) (w0 : World) (x0 : (List Nat)) (A0 : Option Addr) (n0 c0 : Nat) (e0 : n0 = x0.length) (hm0 : Mem [] M w0 [.sl Kd.float A0 c0 x0] w0) (r : Nat) (H0 : real_halves_real_Real_Plus.F k x0 = some r),
    Calls Try.prog 77 [.slice A0 n0 c0, .func (.func 78) #[] #[]].toArray w0 (fun x w' => ∃ v, x = .returned v ∧ ∃ br0, v = .float .f64 br0 ∧ FR br0 r ∧ Mem [] M w0 [] w') := by
  induction k with
  | zero => intro M w0 x0 A0 n0 c0 e0 hm0 r H0; exact absurd H0 (by simp [real_halves_real_Real_Plus.F])
  | succ k ih =>
  intro M w0 x0 A0 n0 c0 e0 hm0 r H0
  rw [real_halves_real_Real_Plus.F] at H0
  subst e0
  refine enter (n := 28) Try.func77 rfl rfl (by kernel_rfl) fun a0 (hf0 : Fr 28 a0 [(0, .slice A0 x0.length c0), (1, .func (.func 78) #[] #[])]) => ?_
  refine wp_seq ?_
  refine reg [] [0, 1] [(0, .slice A0 x0.length c0), (1, .func (.func 78) #[] #[])] [] hf0 (by kernel_rfl) trivial fun a21 hf22 => ?_
  refine thenN ?_
  refine wp_seq ?_
  refine wp_seq ?_
  rcases if_split H0 with ⟨c23, H0⟩ | ⟨c23, H0⟩
  · refine reg [.bool true] [0, 1, 8] [(0, .slice A0 x0.length c0), (1, .func (.func 78) #[] #[]), (8, .bool true)] [.is ((((x0.length : Int) : Int) == 1) = true)] hf22 (by kernel_rfl) ⟨(eqT c23), trivial⟩ fun a24 hf25 => ?_
    refine thenN ?_
    refine condT hf25 (by kernel_rfl) ?_
    refine wp_seq ?_
    obtain ⟨g26, H0⟩ := if_guard H0
    have q27 := (hm0.slAt 0 rfl).float 0 g26.1 g26.2
    obtain ⟨b28, hb28, kb28⟩ := q27.2
    refine reg [.float .f64 b28] [4] [(4, .float .f64 b28)] [.is (Option.isSome A0 = true), .is ((0 : Int) ≤ 0 ∧ 0 < (x0.length : Int)), .cell ((ad A0).add ((0 : Int).toNat * 1)) (.float .f64 b28)] hf25 (by kernel_rfl) ⟨q27.1, g26, kb28, trivial⟩ fun a29 hf30 => ?_
    have hm31 := hm0.sel [] _ rfl (by kernel_rfl)
    refine thenN ?_
    refine wp_ret ?_
    refine thenR ?_
    have hm32 : Mem [] M w0 [] w0 := hm31.sel [] _ rfl (by kernel_rfl)
    obtain rfl := Option.some.inj H0
    refine ret [] [.float .f64 b28] [] hf30 (by kernel_rfl) trivial ?_
    exact ⟨_, rfl, b28, rfl, hb28, hm32⟩
  refine reg [.bool false] [0, 1, 8] [(0, .slice A0 x0.length c0), (1, .func (.func 78) #[] #[]), (8, .bool false)] [.is ((((x0.length : Int) : Int) == 1) = false)] hf22 (by kernel_rfl) ⟨(eqF c23), trivial⟩ fun a34 hf35 => ?_
  refine thenN ?_
  refine condF hf35 (by kernel_rfl) ?_
  refine wp_skip ?_
  refine thenN ?_
  refine wp_seq ?_
  refine reg [] [0, 1, 5] [(0, .slice A0 x0.length c0), (1, .func (.func 78) #[] #[]), (5, .int .i64 (w64 (Int.tdiv (w64 ((x0.length : Int) + 1)) 2)))] [.is ((2 : Int) ≠ 0)] hf35 (by kernel_rfl) ⟨(okIs (by decide)), trivial⟩ fun a36 hf37 => ?_
  refine thenN ?_
  refine wp_seq ?_
  obtain ⟨g38, H0⟩ := if_guard H0
  obtain ⟨r39, hr39, H0⟩ := ob_split H0
  obtain ⟨r40, hr40, H0⟩ := ob_split H0
  obtain ⟨r41, hr41, H0⟩ := ob_split H0
  refine midReg (fun (a : Act) (w : World) => ∃ (b58 : Nat), Fr 28 a [(4, .float .f64 b58)] ∧ FR b58 r41 ∧ Mem [] M w0 [] w) ?_ ?_
  · refine anyG [] (by kernel_rfl) fun w66 hg67 => ?_
    have hm68 := hm0.still hg67
    have e95 : x0.length = x0.length := rfl
    have e95l : 0 ≤ ((w64 (Int.tdiv (w64 ((x0.length : Int) + 1)) 2))).toNat := by omega
    have e95h : ((w64 (Int.tdiv (w64 ((x0.length : Int) + 1)) 2))).toNat ≤ x0.length := by omega
    have hm96 := hm68.sub 0 rfl e95l (e95 ▸ e95h)
    have e97 : x0.length = x0.length := rfl
    have e97l : ((w64 (Int.tdiv (w64 ((x0.length : Int) + 1)) 2))).toNat ≤ x0.length := by omega
    have e97h : x0.length ≤ x0.length := by omega
    have hm98 := hm96.sub 1 rfl e97l (e97 ▸ e97h)
    refine quiet0 [0, 1, 2, 3, 4, 6, 7, 8, 9] [] [16, 19, 20, 24, 25] #[true, true, true, true, true, false, true, true, true, true, false, false, false] [(16, .func (.func 78) #[] #[]), (19, .slice (sub A0 c0 0 1) (((w64 (Int.tdiv (w64 ((x0.length : Int) + 1)) 2))).toNat - 0) (c0 - 0)), (20, .func (.func 78) #[] #[]), (24, .slice (sub A0 c0 (((w64 (Int.tdiv (w64 ((x0.length : Int) + 1)) 2))).toNat) 1) (x0.length - ((w64 (Int.tdiv (w64 ((x0.length : Int) + 1)) 2))).toNat) (c0 - ((w64 (Int.tdiv (w64 ((x0.length : Int) + 1)) 2))).toNat)), (25, .func (.func 78) #[] #[])] [.is (0 ≤ (w64 (Int.tdiv (w64 ((x0.length : Int) + 1)) 2)) ∧ (w64 (Int.tdiv (w64 ((x0.length : Int) + 1)) 2)) ≤ (c0 : Int)), .is (0 ≤ (w64 (Int.tdiv (w64 ((x0.length : Int) + 1)) 2)) ∧ (w64 (Int.tdiv (w64 ((x0.length : Int) + 1)) 2)) ≤ (x0.length : Int))] 4 rfl (by kernel_rfl) (fun _ _ _ _ _ h => nomatch h.1) hf37 (by kernel_rfl) ⟨(sub_cap rfl (hm68.cpAt 0 rfl) g38), g38, trivial⟩ fun a99 hf100 => ?_
    refine all1 5 (by kernel_rfl) ?_
    refine opOf hf100 rfl (by kernel_rfl) (aCall (fid := 77) (args := [.slice (sub A0 c0 0 1) (((w64 (Int.tdiv (w64 ((x0.length : Int) + 1)) 2))).toNat - 0) (c0 - 0), .func (.func 78) #[] #[]]) (d := 21) hf100 (by kernel_rfl) (by kernel_rfl) callable77 (ih _ _ ((List.take (((w64 (Int.tdiv (w64 ((x0.length : Int) + 1)) 2))).toNat) x0).drop 0) (sub A0 c0 0 1) (((w64 (Int.tdiv (w64 ((x0.length : Int) + 1)) 2))).toNat - 0) (c0 - 0) (len_sub e95 e95l e95h) (hm98.give [1] [.sl Kd.float (sub A0 c0 0 1) (c0 - 0) ((List.take (((w64 (Int.tdiv (w64 ((x0.length : Int) + 1)) 2))).toNat) x0).drop 0)] rfl rfl) r39 hr39) ?_)
    rintro _ w102 a103 ⟨b101, rfl, hb101, hk105⟩ hf104
    refine ⟨.inr (Gr.still hk105.cum.none), ?_⟩
    have hm106 := hm98.still hk105.cum.none
    refine all1 10 (by kernel_rfl) ?_
    refine opOf hf104 rfl (by kernel_rfl) (aCall (fid := 77) (args := [.slice (sub A0 c0 (((w64 (Int.tdiv (w64 ((x0.length : Int) + 1)) 2))).toNat) 1) (x0.length - ((w64 (Int.tdiv (w64 ((x0.length : Int) + 1)) 2))).toNat) (c0 - ((w64 (Int.tdiv (w64 ((x0.length : Int) + 1)) 2))).toNat), .func (.func 78) #[] #[]]) (d := 26) hf104 (by kernel_rfl) (by kernel_rfl) callable77 (ih _ _ ((List.take x0.length x0).drop (((w64 (Int.tdiv (w64 ((x0.length : Int) + 1)) 2))).toNat)) (sub A0 c0 (((w64 (Int.tdiv (w64 ((x0.length : Int) + 1)) 2))).toNat) 1) (x0.length - ((w64 (Int.tdiv (w64 ((x0.length : Int) + 1)) 2))).toNat) (c0 - ((w64 (Int.tdiv (w64 ((x0.length : Int) + 1)) 2))).toNat) (len_sub e97 e97l e97h) (hm106.give [0] [.sl Kd.float (sub A0 c0 (((w64 (Int.tdiv (w64 ((x0.length : Int) + 1)) 2))).toNat) 1) (c0 - ((w64 (Int.tdiv (w64 ((x0.length : Int) + 1)) 2))).toNat) ((List.take x0.length x0).drop (((w64 (Int.tdiv (w64 ((x0.length : Int) + 1)) 2))).toNat))] rfl rfl) r40 hr40) ?_)
    rintro _ w108 a109 ⟨b107, rfl, hb107, hk111⟩ hf110
    refine ⟨.inr (Gr.still hk111.cum.none), ?_⟩
    have hm112 := hm106.still hk111.cum.none
    refine all1 11 (by kernel_rfl) ?_
    refine opOf hf110 rfl (by kernel_rfl) (aCall (fid := 78) (args := [.float .f64 b101, .float .f64 b107]) (d := 27) hf110 (by kernel_rfl) (by kernel_rfl) callable78 (real_Real_Plus.calls _ _ r39 b101 hb101 r40 b107 hb107 (hm112.give [] [] rfl rfl) r41 hr41) ?_)
    rintro _ w114 a115 ⟨b113, rfl, hb113, hk117⟩ hf116
    refine ⟨.inr (Gr.still hk117.cum.none), ?_⟩
    have hm118 := hm112.still hk117.cum.none
    refine quiet0 [12] [] [4] #[true, true, true, true, true, true, true, true, true, true, true, true, true] [(4, .float .f64 b113)] [] 0 rfl (by kernel_rfl) (fun _ _ _ _ _ h => nomatch h.1) hf116 (by kernel_rfl) trivial fun a119 hf120 => ?_
    refine allDone (by kernel_rfl) ⟨rfl, b113, hf120.sel (l := [4]) (by kernel_rfl), hb113, hm118.sel [] _ rfl (by kernel_rfl)⟩
  rintro a121 w122 ⟨b58, hf123, hb58, hm124⟩
  refine thenN ?_
  refine wp_ret ?_
  have hm125 : Mem [] M w0 [] w122 := hm124.sel [] _ rfl (by kernel_rfl)
  obtain rfl := Option.some.inj H0
  refine ret [] [.float .f64 b58] [] hf123 (by kernel_rfl) trivial ?_
  exact ⟨_, rfl, b58, rfl, hb58, hm125⟩
noncomputable def real_halves_real_Real_Plus.f (x0 : (List Nat)) : Option Nat := recOf (fun k => real_halves_real_Real_Plus.F k x0)
theorem real_halves_real_Real_Plus.calls (M : List (Option Nat)) (w0 : World) (x0 : (List Nat)) (A0 : Option Addr) (n0 c0 : Nat) (e0 : n0 = x0.length) (hm0 : Mem [] M w0 [.sl Kd.float A0 c0 x0] w0) (r : Nat) (H0 : real_halves_real_Real_Plus.f x0 = some r) :
    Calls Try.prog 77 [.slice A0 n0 c0, .func (.func 78) #[] #[]].toArray w0 (fun x w' => ∃ v, x = .returned v ∧ ∃ br0, v = .float .f64 br0 ∧ FR br0 r ∧ Mem [] M w0 [] w') := by
  obtain ⟨k, hk⟩ := recOf_some H0
  exact real_halves_real_Real_Plus.callsF k M w0 x0 A0 n0 c0 e0 hm0 r hk

/-! ### backstitch/real.Fold -/
noncomputable def real_Fold.f (x0 : (List Nat)) : Option Nat :=
  if (x0.length : Int) = 0 then (some 0)
  else ((real_halves_real_Real_Plus.f x0).bind fun r33 =>
  some r33)
set_option maxRecDepth 100000 in
set_option maxHeartbeats 4000000 in
theorem real_Fold.calls (M : List (Option Nat)) (w0 : World) (x0 : (List Nat)) (A0 : Option Addr) (n0 c0 : Nat) (e0 : n0 = x0.length) (hm0 : Mem [] M w0 [.sl Kd.float A0 c0 x0] w0) (r : Nat) (H0 : real_Fold.f x0 = some r) :
    Calls Try.prog 50 [.slice A0 n0 c0].toArray w0 (fun x w' => ∃ v, x = .returned v ∧ ∃ br0, v = .float .f64 br0 ∧ FR br0 r ∧ Mem [] M w0 [] w') := by
  subst e0
  unfold real_Fold.f at H0
  refine enter (n := 8) Try.func50 rfl rfl (by kernel_rfl) fun a0 (hf0 : Fr 8 a0 [(0, .slice A0 x0.length c0)]) => ?_
  refine wp_seq ?_
  refine reg [] [0] [(0, .slice A0 x0.length c0)] [] hf0 (by kernel_rfl) trivial fun a21 hf22 => ?_
  refine thenN ?_
  refine wp_seq ?_
  refine wp_seq ?_
  rcases if_split H0 with ⟨c23, H0⟩ | ⟨c23, H0⟩
  · refine reg [.bool true] [0, 5] [(0, .slice A0 x0.length c0), (5, .bool true)] [.is ((((x0.length : Int) : Int) == 0) = true)] hf22 (by kernel_rfl) ⟨(eqT c23), trivial⟩ fun a24 hf25 => ?_
    refine thenN ?_
    refine condT hf25 (by kernel_rfl) ?_
    refine wp_seq ?_
    refine reg [] [2] [(2, .float .f64 0)] [] hf25 (by kernel_rfl) trivial fun a26 hf27 => ?_
    have hm28 := hm0.sel [] _ rfl (by kernel_rfl)
    refine thenN ?_
    refine wp_ret ?_
    refine thenR ?_
    have hm29 : Mem [] M w0 [] w0 := hm28.sel [] _ rfl (by kernel_rfl)
    obtain rfl := Option.some.inj H0
    refine ret [] [.float .f64 0] [] hf27 (by kernel_rfl) trivial ?_
    exact ⟨_, rfl, 0, rfl, (FR.lit (by kernel_rfl) (by kernel_rfl)), hm29⟩
  refine reg [.bool false] [0, 5] [(0, .slice A0 x0.length c0), (5, .bool false)] [.is ((((x0.length : Int) : Int) == 0) = false)] hf22 (by kernel_rfl) ⟨(eqF c23), trivial⟩ fun a31 hf32 => ?_
  refine thenN ?_
  refine condF hf32 (by kernel_rfl) ?_
  refine wp_skip ?_
  refine thenN ?_
  refine wp_seq ?_
  obtain ⟨r33, hr33, H0⟩ := ob_split H0
  refine inReg ?_
  refine go 1 [] [6] [(6, .slice A0 x0.length c0)] [] hf32 (by kernel_rfl) trivial fun a34 hf35 => ?_
  refine listOf hf35 rfl (by kernel_rfl) (aCall (fid := 77) (args := [.slice A0 x0.length c0, .func (.func 78) #[] #[]]) (d := 7) hf35 (by kernel_rfl) (by kernel_rfl) callable77 (real_halves_real_Real_Plus.calls _ _ x0 A0 x0.length c0 rfl (hm0.give [0] [.sl Kd.float A0 c0 x0] rfl rfl) r33 hr33) ?_)
  rintro _ w37 a38 ⟨b36, rfl, hb36, hk40⟩ hf39
  have hm41 := hm0.still hk40.cum.none
  refine go 1 [] [2] [(2, .float .f64 b36)] [] hf39 (by kernel_rfl) trivial fun a42 hf43 => ?_
  refine endL rfl ?_
  have hm44 := hm41.sel [] _ rfl (by kernel_rfl)
  refine thenN ?_
  refine wp_ret ?_
  have hm45 : Mem [] M w0 [] w37 := hm44.sel [] _ rfl (by kernel_rfl)
  obtain rfl := Option.some.inj H0
  refine ret [] [.float .f64 b36] [] hf43 (by kernel_rfl) trivial ?_
  exact ⟨_, rfl, b36, rfl, hb36, hm45⟩
end Go.Proofs.Ytkcgiolledmbnab
