/- Printed by gen.py. -/
import Derived.Test.YtkcgiolledmbnabF0
import Derived.Test.YtkcgiolledmbnabF1
namespace Go.Proofs.Ytkcgiolledmbnab
open Go Go.RowKit
set_option linter.unusedSimpArgs false
set_option linter.unusedVariables false
set_option linter.unnecessarySimpa false
/-! ### slices.Repeat[[]float64,float64] -/
noncomputable def slices_Repeat_float64.l0  (s75 : (Int × (List Nat))) : Step (Int × (List Nat)) (Int × (List Nat)) :=
  if s75.1 < (s75.2.length : Int) then (if 0 ≤ s75.1 ∧ s75.1 ≤ (s75.2.length : Int) then (.next ((w64 (s75.1 + ((List.take (min ((s75.1).toNat - 0) (s75.2.length - (s75.1).toNat)) s75.2).length : Int))), (cpy s75.2 ((s75.1).toNat) (List.take (min ((s75.1).toNat - 0) (s75.2.length - (s75.1).toNat)) s75.2))))
  else .bad)
  else (.done (s75.1, s75.2))
noncomputable def slices_Repeat_float64.f (x0 : (List Nat)) (x1 : Int) : Option (List Nat) :=
  if x1 < 0 then none
  else ((bits_Mul.f (IntKind.wrap .u64 ((x0.length : Int))) (IntKind.wrap .u64 (x1))).bind fun r28 =>
  if 0 < r28.1 then none
  else (if 9223372036854775807 < r28.2 then none
  else (if 0 ≤ (w64 (r28.2)) ∧ (w64 (r28.2)) ≤ 1099511627776 then ((loop (slices_Repeat_float64.l0) (((List.take ((List.replicate ((w64 (r28.2))).toNat (0 : Nat)).length) x0).length : Int), (cpy (List.replicate ((w64 (r28.2))).toNat (0 : Nat)) 0 (List.take ((List.replicate ((w64 (r28.2))).toNat (0 : Nat)).length) x0)))).bind fun r76 =>
  some r76.2)
  else none)))
set_option maxRecDepth 100000 in
set_option maxHeartbeats 4000000 in
theorem slices_Repeat_float64.calls (M : List (Option Nat)) (w0 : World) (x0 : (List Nat)) (A0 : Option Addr) (n0 c0 : Nat) (e0 : n0 = x0.length) (x1 : Int) (hm0 : Mem [] M w0 [.sl Kd.float A0 c0 x0] w0) (r : (List Nat)) (H0 : slices_Repeat_float64.f x0 x1 = some r) :
    Calls Try.prog 59 [.slice A0 n0 c0, .int .i64 x1].toArray w0 (fun x w' => ∃ v, x = .returned v ∧ ∃ Ar0 cr0, v = .slice Ar0 r.length cr0 ∧ Mem [] M w0 [.ow Kd.float 44 Ar0 cr0 r] w') := by
  subst e0
  unfold slices_Repeat_float64.f at H0
  refine enter (n := 48) Try.func59 rfl rfl (by kernel_rfl) fun a0 (hf0 : Fr 48 a0 [(0, .slice A0 x0.length c0), (1, .int .i64 x1)]) => ?_
  refine wp_seq ?_
  refine reg [] [0, 1] [(0, .slice A0 x0.length c0), (1, .int .i64 x1)] [] hf0 (by kernel_rfl) trivial fun a21 hf22 => ?_
  refine thenN ?_
  refine wp_seq ?_
  refine wp_seq ?_
  rcases if_split H0 with ⟨c23, H0⟩ | ⟨c23, H0⟩
  · refine reg [.bool true] [0, 1, 10] [(0, .slice A0 x0.length c0), (1, .int .i64 x1), (10, .bool true)] [.is (decide (x1 < 0) = true)] hf22 (by kernel_rfl) ⟨(decide_eq_true c23), trivial⟩ fun a24 hf25 => ?_
    refine thenN ?_
    refine condT hf25 (by kernel_rfl) ?_
    exact absurd H0 (by simp [Step.go])
  refine reg [.bool false] [0, 1, 10] [(0, .slice A0 x0.length c0), (1, .int .i64 x1), (10, .bool false)] [.is (decide (x1 < 0) = false)] hf22 (by kernel_rfl) ⟨(decide_eq_false c23), trivial⟩ fun a26 hf27 => ?_
  refine thenN ?_
  refine condF hf27 (by kernel_rfl) ?_
  refine wp_skip ?_
  refine thenN ?_
  refine wp_seq ?_
  obtain ⟨r28, hr28, H0⟩ := ob_split H0
  refine inReg ?_
  refine go 5 [] [0, 15, 17] [(0, .slice A0 x0.length c0), (15, .int .u64 (IntKind.wrap .u64 ((x0.length : Int)))), (17, .int .u64 (IntKind.wrap .u64 (x1)))] [] hf27 (by kernel_rfl) trivial fun a29 hf30 => ?_
  refine listOf hf30 rfl (by kernel_rfl) (aCall (fid := 81) (args := [.int .u64 (IntKind.wrap .u64 ((x0.length : Int))), .int .u64 (IntKind.wrap .u64 (x1))]) (d := 18) hf30 (by kernel_rfl) (by kernel_rfl) callable81 (bits_Mul.calls _ _ (IntKind.wrap .u64 ((x0.length : Int))) (IntKind.wrap .u64 (x1)) (hm0.give [] [] rfl rfl) r28 hr28) ?_)
  rintro _ w31 a32 ⟨rfl, hk34⟩ hf33
  have hm35 := hm0.still hk34.cum.none
  refine go 5 [] [0, 5, 6] [(0, .slice A0 x0.length c0), (5, .int .u64 r28.1), (6, .int .u64 r28.2)] [] hf33 (by kernel_rfl) trivial fun a36 hf37 => ?_
  refine endL rfl ?_
  refine thenN ?_
  refine wp_seq ?_
  refine wp_seq ?_
  rcases if_split H0 with ⟨c38, H0⟩ | ⟨c38, H0⟩
  · refine reg [.bool true] [0, 6, 26] [(0, .slice A0 x0.length c0), (6, .int .u64 r28.2), (26, .bool true)] [.is (decide (0 < r28.1) = true)] hf37 (by kernel_rfl) ⟨(decide_eq_true c38), trivial⟩ fun a39 hf40 => ?_
    refine thenN ?_
    refine condT hf40 (by kernel_rfl) ?_
    exact absurd H0 (by simp [Step.go])
  rcases if_split H0 with ⟨c41, H0⟩ | ⟨c41, H0⟩
  · refine reg [.bool false, .bool true] [0, 6, 26] [(0, .slice A0 x0.length c0), (6, .int .u64 r28.2), (26, .bool true)] [.is (decide (0 < r28.1) = false), .is (decide (9223372036854775807 < r28.2) = true)] hf37 (by kernel_rfl) ⟨(decide_eq_false c38), (decide_eq_true c41), trivial⟩ fun a42 hf43 => ?_
    refine thenN ?_
    refine condT hf43 (by kernel_rfl) ?_
    exact absurd H0 (by simp [Step.go])
  refine reg [.bool false, .bool false] [0, 6, 26] [(0, .slice A0 x0.length c0), (6, .int .u64 r28.2), (26, .bool false)] [.is (decide (0 < r28.1) = false), .is (decide (9223372036854775807 < r28.2) = false)] hf37 (by kernel_rfl) ⟨(decide_eq_false c38), (decide_eq_false c41), trivial⟩ fun a44 hf45 => ?_
  refine thenN ?_
  refine condF hf45 (by kernel_rfl) ?_
  refine wp_skip ?_
  refine thenN ?_
  refine wp_seq ?_
  obtain ⟨g46, H0⟩ := if_guard H0
  refine inReg ?_
  refine go 2 [] [0, 29] [(0, .slice A0 x0.length c0), (29, .int .i64 (w64 (r28.2)))] [] hf45 (by kernel_rfl) trivial fun a47 hf48 => ?_
  refine listOf hf48 rfl (by kernel_rfl) (aMake (kd := Kd.float) (x := 0) (E := 44) (L := (w64 (r28.2))) (z := [.float .f64 0]) (sz := 1) (d := 30) hf48 (by kernel_rfl) (by kernel_rfl) rfl (fun _ _ => ⟨0, rfl, FR.lit (by kernel_rfl) (by kernel_rfl)⟩) g46.1 g46.2 ?_)
  intro A49 c50 w51 a52 ho54 hb56 hg55 hf53
  have hm57 : Mem [] M w0 [.ow Kd.float 44 A49 c50 (List.replicate ((w64 (r28.2))).toNat (0 : Nat)), .sl Kd.float A0 c0 x0] w51 := hm35.own (ho54 _) hg55
  refine go 1 [] [0, 7] [(0, .slice A0 x0.length c0), (7, .slice A49 ((List.replicate ((w64 (r28.2))).toNat (0 : Nat)).length) c50)] [] hf53 (by kernel_rfl) trivial fun a58 hf59 => ?_
  refine endL rfl ?_
  refine thenN ?_
  refine wp_seq ?_
  refine inReg ?_
  refine go 2 [] [7, 31, 32] [(7, .slice A49 ((List.replicate ((w64 (r28.2))).toNat (0 : Nat)).length) c50), (31, .slice A49 ((List.replicate ((w64 (r28.2))).toNat (0 : Nat)).length) c50), (32, .slice A0 x0.length c0)] [] hf59 (by kernel_rfl) trivial fun a60 hf61 => ?_
  refine listOf hf61 rfl (by kernel_rfl) (aCopy (kd := Kd.float) (base := 0) (E := 44) (A := A49) (B := A0) (D := A49) (c := c50) (lo := 0) (dn := ((List.replicate ((w64 (r28.2))).toNat (0 : Nat)).length)) (dc := c50) (sn := x0.length) (sc := c0) (xs := (List.replicate ((w64 (r28.2))).toNat (0 : Nat))) (ys := (List.take ((List.replicate ((w64 (r28.2))).toNat (0 : Nat)).length) x0)) (d := 33) hf61 (by kernel_rfl) (.inr ⟨rfl, rfl⟩) (by kernel_rfl) rfl (hm57.at 0 rfl) (by rw [Nat.zero_add, show (List.replicate ((w64 (r28.2))).toNat (0 : Nat)).length = (List.replicate ((w64 (r28.2))).toNat (0 : Nat)).length from rfl]; exact Nat.le_refl _) (Src.sl rfl (hm57.at2 0 1 rfl rfl).2 ((List.replicate ((w64 (r28.2))).toNat (0 : Nat)).length)) (by rw [List.length_take, ← (show x0.length = x0.length from rfl)]; show _ = min _ _; omega) ?_)
  intro w62 a63 ho66 hg67 hf65
  have e68 : (cpy (List.replicate ((w64 (r28.2))).toNat (0 : Nat)) 0 (List.take ((List.replicate ((w64 (r28.2))).toNat (0 : Nat)).length) x0)).length = (List.replicate ((w64 (r28.2))).toNat (0 : Nat)).length := cpy_length (by have := Nat.le_refl 0; have := Nat.le_refl 0; simp only [List.length_take]; omega)
  have hf69 : Fr 48 a63 [(7, .slice A49 ((List.replicate ((w64 (r28.2))).toNat (0 : Nat)).length) c50), (31, .slice A49 ((List.replicate ((w64 (r28.2))).toNat (0 : Nat)).length) c50), (32, .slice A0 x0.length c0), (33, .int .i64 ((List.take ((List.replicate ((w64 (r28.2))).toNat (0 : Nat)).length) x0).length : Int))] := hf65.sel (l := [7, 31, 32, 33]) (by kernel_rfl)
  have hf70 : Fr 48 a63 [(7, .slice A49 ((cpy (List.replicate ((w64 (r28.2))).toNat (0 : Nat)) 0 (List.take ((List.replicate ((w64 (r28.2))).toNat (0 : Nat)).length) x0)).length) c50), (31, .slice A49 ((cpy (List.replicate ((w64 (r28.2))).toNat (0 : Nat)) 0 (List.take ((List.replicate ((w64 (r28.2))).toNat (0 : Nat)).length) x0)).length) c50), (32, .slice A0 x0.length c0), (33, .int .i64 ((List.take ((List.replicate ((w64 (r28.2))).toNat (0 : Nat)).length) x0).length : Int))] := by simpa only [e68] using hf69
  have hm71 := hm57.setOwn 0 _ rfl rfl ho66 hg67 (.inl rfl)
  refine go 1 [] [7, 8] [(7, .slice A49 ((cpy (List.replicate ((w64 (r28.2))).toNat (0 : Nat)) 0 (List.take ((List.replicate ((w64 (r28.2))).toNat (0 : Nat)).length) x0)).length) c50), (8, .int .i64 ((List.take ((List.replicate ((w64 (r28.2))).toNat (0 : Nat)).length) x0).length : Int))] [] hf70 (by kernel_rfl) trivial fun a72 hf73 => ?_
  refine endL rfl ?_
  have hm74 := hm71.sel [0] _ rfl (by kernel_rfl)
  refine thenN ?_
  refine wp_seq ?_
  obtain ⟨r76, hr76, H0⟩ := ob_split H0
  refine wpBlock (Mid := fun (a : Act) (w : World) => Fr 48 a [(7, .slice A49 r76.2.length c50), (8, .int .i64 r76.1)] ∧ Mem [] M w0 [.ow Kd.float 44 A49 c50 r76.2] w) ?_ ?_
  · refine wpLoop (slices_Repeat_float64.l0) r76 (fun (s75 : (Int × (List Nat))) (a : Act) (w : World) => Fr 48 a [(7, .slice A49 s75.2.length c50), (8, .int .i64 s75.1)] ∧ Mem [] M w0 [.ow Kd.float 44 A49 c50 s75.2] w) (((List.take ((List.replicate ((w64 (r28.2))).toNat (0 : Nat)).length) x0).length : Int), (cpy (List.replicate ((w64 (r28.2))).toNat (0 : Nat)) 0 (List.take ((List.replicate ((w64 (r28.2))).toNat (0 : Nat)).length) x0))) hr76 ⟨hf73.sel (l := [7, 8]) (by kernel_rfl), hm74.sel [0] _ rfl (by kernel_rfl)⟩ ?_
    rintro g77 s75 a78 w79 H1 ⟨hf80, hm81⟩
    unfold slices_Repeat_float64.l0 at H1
    refine wp_seq ?_
    refine wp_seq ?_
    rcases ifS_split H1 with ⟨c82, H1⟩ | ⟨c82, H1⟩
    rotate_left
    · refine reg [.bool false] [7, 8, 37] [(7, .slice A49 s75.2.length c50), (8, .int .i64 s75.1), (37, .bool false)] [.is (decide (s75.1 < (s75.2.length : Int)) = false)] hf80 (by kernel_rfl) ⟨(decide_eq_false c82), trivial⟩ fun a134 hf135 => ?_
      refine thenN ?_
      refine condF hf135 (by kernel_rfl) ?_
      refine wp_exit ?_
      refine thenE ?_
      refine thenE ?_
      obtain rfl := Option.some.inj H1
      exact .inl ⟨rfl, hf135.sel (l := [7, 8]) (by kernel_rfl), hm81.sel [0] _ rfl (by kernel_rfl)⟩
    refine reg [.bool true] [7, 8, 37] [(7, .slice A49 s75.2.length c50), (8, .int .i64 s75.1), (37, .bool true)] [.is (decide (s75.1 < (s75.2.length : Int)) = true)] hf80 (by kernel_rfl) ⟨(decide_eq_true c82), trivial⟩ fun a83 hf84 => ?_
    refine thenN ?_
    refine condT hf84 (by kernel_rfl) ?_
    refine wp_skip ?_
    refine thenN ?_
    refine wp_block ?_
    obtain ⟨g85, H1⟩ := ifS_guard H1
    refine midReg (fun (a : Act) (w : World) => Fr 48 a [(7, .slice A49 ((cpy s75.2 ((s75.1).toNat) (List.take (min ((s75.1).toNat - 0) (s75.2.length - (s75.1).toNat)) s75.2)).length) c50), (8, .int .i64 (w64 (s75.1 + ((List.take (min ((s75.1).toNat - 0) (s75.2.length - (s75.1).toNat)) s75.2).length : Int))))] ∧ Mem [] M w0 [.ow Kd.float 44 A49 c50 (cpy s75.2 ((s75.1).toNat) (List.take (min ((s75.1).toNat - 0) (s75.2.length - (s75.1).toNat)) s75.2))] w) ?_ ?_
    · refine anyG [7] (by kernel_rfl) fun w97 hg98 => ?_
      have hm99 := hm81.still hg98
      have e115 : s75.2.length = s75.2.length := rfl
      have e115p : (s75.1).toNat + (s75.2.length - (s75.1).toNat) ≤ s75.2.length := by omega
      have e116 : s75.2.length = s75.2.length := rfl
      have e116p : 0 + ((s75.1).toNat - 0) ≤ s75.2.length := by omega
      refine quiet0 [0, 1, 2, 3, 4, 5, 6] [] [7, 8, 38, 41, 44] #[true, true, true, true, true, true, true, false, false, false] [(7, .slice A49 s75.2.length c50), (8, .int .i64 s75.1), (38, .int .i64 s75.1), (41, .slice (sub A49 c50 ((s75.1).toNat) 1) (s75.2.length - (s75.1).toNat) (c50 - (s75.1).toNat)), (44, .slice (sub A49 c50 0 1) ((s75.1).toNat - 0) (c50 - 0))] [.is (0 ≤ s75.1 ∧ s75.1 ≤ (s75.2.length : Int)), .is (0 ≤ s75.1 ∧ s75.1 ≤ (c50 : Int))] 3 rfl (by kernel_rfl) (fun _ _ _ _ _ h => nomatch h.1) hf84 (by kernel_rfl) ⟨g85, (sub_cap rfl (hm99.cpOw 0 rfl) g85), trivial⟩ fun a117 hf118 => ?_
      refine all1 7 (by kernel_rfl) ?_
      refine opOf hf118 rfl (by kernel_rfl) (aCopy (kd := Kd.float) (base := 0) (E := 44) (A := A49) (B := (sub A49 c50 0 1)) (D := (sub A49 c50 ((s75.1).toNat) 1)) (c := c50) (lo := ((s75.1).toNat)) (dn := (s75.2.length - (s75.1).toNat)) (dc := (c50 - (s75.1).toNat)) (sn := ((s75.1).toNat - 0)) (sc := (c50 - 0)) (xs := s75.2) (ys := (List.take (min ((s75.1).toNat - 0) (s75.2.length - (s75.1).toNat)) s75.2)) (d := 45) hf118 (by kernel_rfl) (.inl rfl) (by kernel_rfl) rfl (hm99.at 0 rfl) e115p ((Src.ow rfl (hm99.at 0 rfl) (min ((s75.1).toNat - 0) (s75.2.length - (s75.1).toNat))).sub0 _ _) (by have := e116p; rw [List.length_take]; show _ = min _ _; omega) ?_)
      intro w119 a120 ho122 hg123 hf121
      refine ⟨.inl (by decide), ?_⟩
      have e124 : (cpy s75.2 ((s75.1).toNat) (List.take (min ((s75.1).toNat - 0) (s75.2.length - (s75.1).toNat)) s75.2)).length = s75.2.length := cpy_length (by have := e115p; have := Nat.le_refl 0; simp only [List.length_take]; omega)
      have hf125 : Fr 48 a120 [(7, .slice A49 s75.2.length c50), (8, .int .i64 s75.1), (38, .int .i64 s75.1), (45, .int .i64 ((List.take (min ((s75.1).toNat - 0) (s75.2.length - (s75.1).toNat)) s75.2).length : Int))] := hf121.sel (l := [7, 8, 38, 45]) (by kernel_rfl)
      have hf126 : Fr 48 a120 [(7, .slice A49 ((cpy s75.2 ((s75.1).toNat) (List.take (min ((s75.1).toNat - 0) (s75.2.length - (s75.1).toNat)) s75.2)).length) c50), (8, .int .i64 s75.1), (38, .int .i64 s75.1), (45, .int .i64 ((List.take (min ((s75.1).toNat - 0) (s75.2.length - (s75.1).toNat)) s75.2).length : Int))] := by simpa only [e124] using hf125
      have hm127 := hm99.setOwn 0 _ rfl rfl ho122 hg123 (.inl rfl)
      refine quiet0 [8, 9] [] [7, 8] #[true, true, true, true, true, true, true, true, true, true] [(7, .slice A49 ((cpy s75.2 ((s75.1).toNat) (List.take (min ((s75.1).toNat - 0) (s75.2.length - (s75.1).toNat)) s75.2)).length) c50), (8, .int .i64 (w64 (s75.1 + ((List.take (min ((s75.1).toNat - 0) (s75.2.length - (s75.1).toNat)) s75.2).length : Int))))] [] 0 rfl (by kernel_rfl) (fun _ _ _ _ _ h => nomatch h.1) hf126 (by kernel_rfl) trivial fun a128 hf129 => ?_
      refine allDone (by kernel_rfl) ⟨rfl, hf129.sel (l := [7, 8]) (by kernel_rfl), hm127.sel [0] _ rfl (by kernel_rfl)⟩
    rintro a130 w131 ⟨hf132, hm133⟩
    refine blkN ?_
    exact ⟨((w64 (s75.1 + ((List.take (min ((s75.1).toNat - 0) (s75.2.length - (s75.1).toNat)) s75.2).length : Int))), (cpy s75.2 ((s75.1).toNat) (List.take (min ((s75.1).toNat - 0) (s75.2.length - (s75.1).toNat)) s75.2))), H1, hf132.sel (l := [7, 8]) (by kernel_rfl), hm133.sel [0] _ rfl (by kernel_rfl)⟩
  rintro a136 w137 ⟨hf138, hm139⟩
  refine thenN ?_
  refine wp_seq ?_
  refine reg [] [4] [(4, .slice A49 r76.2.length c50)] [] hf138 (by kernel_rfl) trivial fun a140 hf141 => ?_
  refine thenN ?_
  refine wp_ret ?_
  have hm142 : Mem [] M w0 [.ow Kd.float 44 A49 c50 r76.2] w137 := hm139.sel [0] _ rfl (by kernel_rfl)
  obtain rfl := Option.some.inj H0
  refine ret [] [.slice A49 r76.2.length c50] [] hf141 (by kernel_rfl) trivial ?_
  exact ⟨_, rfl, A49, c50, rfl, hm142⟩

/-! ### backstitch/tensor.New -/
noncomputable def tensor_New.f (x0 : (List Int)) (x1 : Nat) : Option (Tensor × Int) :=
  (shape_Size.f x0).bind fun r30 =>
  if r30.2 = 0 then ((slices_Clone_int.f x0).bind fun r43 =>
  (slices_Repeat_float64.f ([x1] : List Nat) r30.1).bind fun r44 =>
  some ((⟨r43, r44⟩ : Tensor), 0))
  else (some ((⟨([] : (List Int)), ([] : (List Nat))⟩ : Tensor), r30.2))
set_option maxRecDepth 100000 in
set_option maxHeartbeats 4000000 in
theorem tensor_New.calls (M : List (Option Nat)) (w0 : World) (x0 : (List Int)) (A0 : Option Addr) (n0 c0 : Nat) (e0 : n0 = x0.length) (x1 : Nat) (b1 : Nat) (h1 : FR b1 x1) (hm0 : Mem [] M w0 [.sl (Kd.int .i64) A0 c0 x0] w0) (r : (Tensor × Int)) (H0 : tensor_New.f x0 x1 = some r) :
    Calls Try.prog 27 [.slice A0 n0 c0, .float .f64 b1].toArray w0 (fun x w' => ∃ v, x = .returned v ∧ ∃ Ar0_0 cr0_0 Ar0_1 cr0_1, v = .tuple #[.agg #[.slice Ar0_0 r.1.Shape.length cr0_0, .slice Ar0_1 r.1.Data.length cr0_1], .int .i64 r.2] ∧ Mem [] M w0 [.ow (Kd.int .i64) 3 Ar0_0 cr0_0 r.1.Shape, .ow Kd.float 44 Ar0_1 cr0_1 r.1.Data] w') := by
  subst e0
  unfold tensor_New.f at H0
  refine enter (n := 24) Try.func27 rfl rfl (by kernel_rfl) fun a0 (hf0 : Fr 24 a0 [(0, .slice A0 x0.length c0), (1, .float .f64 b1)]) => ?_
  refine wp_seq ?_
  refine inReg ?_
  refine listOf hf0 rfl (by kernel_rfl) (aNew (cs := [.slice none 0 0, .slice none 0 0]) (T := 28) (d := 4) hf0 (by kernel_rfl) (by kernel_rfl) ?_)
  intro b21 w22 a23 hbb21 hx25 hg26 hf24
  have hm27 := hm0.box hbb21 hx25 hg26
  refine go 1 [] [0, 1, 4] [(0, .slice A0 x0.length c0), (1, .float .f64 b1), (4, .pointer (some ⟨b21, 0, none⟩))] [] hf24 (by kernel_rfl) trivial fun a28 hf29 => ?_
  refine endL rfl ?_
  refine thenN ?_
  refine wp_seq ?_
  obtain ⟨r30, hr30, H0⟩ := ob_split H0
  refine inReg ?_
  refine go 1 [] [0, 1, 4, 9] [(0, .slice A0 x0.length c0), (1, .float .f64 b1), (4, .pointer (some ⟨b21, 0, none⟩)), (9, .slice A0 x0.length c0)] [] hf29 (by kernel_rfl) trivial fun a31 hf32 => ?_
  refine listOf hf32 rfl (by kernel_rfl) (aCall (fid := 53) (args := [.slice A0 x0.length c0]) (d := 10) hf32 (by kernel_rfl) (by kernel_rfl) callable53 (shape_Size.calls _ _ x0 A0 x0.length c0 rfl (hm27.give [1] [.sl (Kd.int .i64) A0 c0 x0] rfl rfl) r30 hr30) ?_)
  rintro _ w33 a34 ⟨rfl, hk36⟩ hf35
  have hm37 := hm27.still hk36.cum.none
  refine go 5 [] [0, 1, 4, 6, 7] [(0, .slice A0 x0.length c0), (1, .float .f64 b1), (4, .pointer (some ⟨b21, 0, none⟩)), (6, .int .i64 r30.1), (7, .int .i64 r30.2)] [] hf35 (by kernel_rfl) trivial fun a38 hf39 => ?_
  refine endL rfl ?_
  refine thenN ?_
  refine wp_seq ?_
  refine wp_seq ?_
  rcases if_split H0 with ⟨c40, H0⟩ | ⟨c40, H0⟩
  rotate_left
  · refine reg [.bool true] [0, 1, 4, 6, 7, 14] [(0, .slice A0 x0.length c0), (1, .float .f64 b1), (4, .pointer (some ⟨b21, 0, none⟩)), (6, .int .i64 r30.1), (7, .int .i64 r30.2), (14, .bool true)] [.is (((r30.2 : Int) != 0) = true)] hf39 (by kernel_rfl) ⟨(neT c40), trivial⟩ fun a84 hf85 => ?_
    refine thenN ?_
    refine condT hf85 (by kernel_rfl) ?_
    refine wp_seq ?_
    refine inReg ?_
    refine go 2 [] [4, 15, 16] [(4, .pointer (some ⟨b21, 0, none⟩)), (15, .agg #[.slice none 0 0, .slice none 0 0]), (16, .int .i64 r30.2)] [] hf85 (by kernel_rfl) trivial fun a86 hf87 => ?_
    refine listOf hf87 rfl (by kernel_rfl) (aStoreB (b := b21) (j := 0) (T := 28) (cs := [.slice none 0 0, .slice none 0 0]) (us := [.slice none 0 0, .slice none 0 0]) (cs' := [.slice none 0 0, .slice none 0 0]) hf87 (by kernel_rfl) (hm37.bxAt 0 rfl) (by kernel_rfl) (by kernel_rfl) (by kernel_rfl) ?_)
    intro w88 hx89 hg90
    have hm91 := hm37.setBox 0 _ rfl rfl hx89 hg90
    refine go 1 [] [4, 5] [(4, .pointer (some ⟨b21, 0, none⟩)), (5, .int .i64 r30.2)] [] hf87 (by kernel_rfl) trivial fun a92 hf93 => ?_
    refine endL rfl ?_
    have hm94 := hm91.sel [0] _ rfl (by kernel_rfl)
    refine thenN ?_
    refine wp_ret ?_
    refine thenR ?_
    have hm95 := hm94.nilOw (Kd.int .i64) 3
    have hm96 := hm95.nilOw Kd.float 44
    have hm97 : Mem [] M w0 [.ow (Kd.int .i64) 3 none 0 ([] : (List Int)), .ow Kd.float 44 none 0 ([] : (List Nat))] w88 := hm96.sel [1, 0] _ rfl (by kernel_rfl)
    obtain rfl := Option.some.inj H0
    refine ret [.agg #[.slice none 0 0, .slice none 0 0]] [.agg #[.slice none 0 0, .slice none 0 0], .int .i64 r30.2] [.cell ⟨b21, 0, none⟩ (.slice none 0 0), .cell ⟨b21, 1, none⟩ (.slice none 0 0)] hf93 (by kernel_rfl) ⟨(hm94.cell 0 rfl rfl), (hm94.cell 0 rfl rfl), trivial⟩ ?_
    exact ⟨_, rfl, none, 0, none, 0, rfl, hm97⟩
  refine reg [.bool false] [0, 1, 4, 6, 7, 14] [(0, .slice A0 x0.length c0), (1, .float .f64 b1), (4, .pointer (some ⟨b21, 0, none⟩)), (6, .int .i64 r30.1), (7, .int .i64 r30.2), (14, .bool false)] [.is (((r30.2 : Int) != 0) = false)] hf39 (by kernel_rfl) ⟨(neF c40), trivial⟩ fun a41 hf42 => ?_
  refine thenN ?_
  refine condF hf42 (by kernel_rfl) ?_
  refine wp_skip ?_
  refine thenN ?_
  refine wp_seq ?_
  obtain ⟨r43, hr43, H0⟩ := ob_split H0
  obtain ⟨r44, hr44, H0⟩ := ob_split H0
  refine inReg ?_
  refine go 1 [] [1, 4, 6, 17] [(1, .float .f64 b1), (4, .pointer (some ⟨b21, 0, none⟩)), (6, .int .i64 r30.1), (17, .slice A0 x0.length c0)] [] hf42 (by kernel_rfl) trivial fun a45 hf46 => ?_
  refine listOf hf46 rfl (by kernel_rfl) (aCall (fid := 54) (args := [.slice A0 x0.length c0]) (d := 18) hf46 (by kernel_rfl) (by kernel_rfl) callable54 (slices_Clone_int.calls _ _ x0 A0 x0.length c0 rfl (hm37.give [1] [.sl (Kd.int .i64) A0 c0 x0] rfl rfl) r43 hr43) ?_)
  rintro _ w49 a50 ⟨A47, c48, rfl, hk52⟩ hf51
  have hm53 := hm37.back hk52
  refine go 1 [] [4, 6, 18, 19] [(4, .pointer (some ⟨b21, 0, none⟩)), (6, .int .i64 r30.1), (18, .slice A47 r43.length c48), (19, .float .f64 b1)] [] hf51 (by kernel_rfl) trivial fun a54 hf55 => ?_
  refine listOf hf55 rfl (by kernel_rfl) (aLit (cs := [.float .f64 b1]) (E := 44) (len := 1) (d := 20) hf55 (by kernel_rfl) (by kernel_rfl) ?_)
  intro b56 w57 a58 hbb56 hx60 hg61 hf59
  have hm53s := hm53.still hg61
  have hm62 := Mem.lit (kd := Kd.float) (xs := ([x1] : List Nat)) hm53 hbb56 hx60 hg61 (Els.one (kd := Kd.float) (us := [.float .f64 b1]) (x := x1) ⟨_, rfl, h1⟩)
  refine go 1 [] [4, 18, 20, 21] [(4, .pointer (some ⟨b21, 0, none⟩)), (18, .slice A47 r43.length c48), (20, .slice (some ⟨b56, 0, none⟩) 1 1), (21, .int .i64 r30.1)] [] hf59 (by kernel_rfl) trivial fun a63 hf65 => ?_
  refine listOf hf65 rfl (by kernel_rfl) (aCall (fid := 59) (args := [.slice (some ⟨b56, 0, none⟩) 1 1, .int .i64 r30.1]) (d := 22) hf65 (by kernel_rfl) (by kernel_rfl) callable59 (slices_Repeat_float64.calls _ _ ([x1] : List Nat) (some ⟨b56, 0, none⟩) 1 1 rfl r30.1 (hm62.give [0] [.sl Kd.float (some ⟨b56, 0, none⟩) 1 ([x1] : List Nat)] rfl rfl) r44 hr44) ?_)
  rintro _ w68 a69 ⟨A66, c67, rfl, hk71⟩ hf70
  have hm72 := hm62.back hk71
  refine go 1 [] [4, 23] [(4, .pointer (some ⟨b21, 0, none⟩)), (23, .agg #[.slice A47 r43.length c48, .slice A66 r44.length c67])] [] hf70 (by kernel_rfl) trivial fun a73 hf74 => ?_
  refine listOf hf74 rfl (by kernel_rfl) (aStoreB (b := b21) (j := 0) (T := 28) (cs := [.slice none 0 0, .slice none 0 0]) (us := [.slice A47 r43.length c48, .slice A66 r44.length c67]) (cs' := [.slice A47 r43.length c48, .slice A66 r44.length c67]) hf74 (by kernel_rfl) (hm72.bxAt 3 rfl) (by kernel_rfl) (by kernel_rfl) (by kernel_rfl) ?_)
  intro w75 hx76 hg77
  have hm78 := hm72.setBox 3 _ rfl rfl hx76 hg77
  refine go 1 [] [4, 5] [(4, .pointer (some ⟨b21, 0, none⟩)), (5, .int .i64 0)] [] hf74 (by kernel_rfl) trivial fun a79 hf80 => ?_
  refine endL rfl ?_
  have hm81 := hm78.sel [0, 2, 3] _ rfl (by kernel_rfl)
  refine thenN ?_
  refine wp_ret ?_
  have hm82 : Mem [] M w0 [.ow (Kd.int .i64) 3 A47 c48 r43, .ow Kd.float 44 A66 c67 r44] w75 := hm81.sel [1, 0] _ rfl (by kernel_rfl)
  obtain rfl := Option.some.inj H0
  refine ret [.agg #[.slice A47 r43.length c48, .slice A66 r44.length c67]] [.agg #[.slice A47 r43.length c48, .slice A66 r44.length c67], .int .i64 0] [.cell ⟨b21, 0, none⟩ (.slice A47 r43.length c48), .cell ⟨b21, 1, none⟩ (.slice A66 r44.length c67)] hf80 (by kernel_rfl) ⟨(hm81.cell 2 rfl rfl), (hm81.cell 2 rfl rfl), trivial⟩ ?_
  exact ⟨_, rfl, A47, c48, A66, c67, rfl, hm82⟩

/-! ### backstitch/shape.Place -/
noncomputable def shape_Place.l0 (x0 : (List Int)) (s71 : (Int × Int × (List Int))) : Step (Int × Int × (List Int)) (Int × Int × (List Int)) :=
  if 0 ≤ s71.2.1 then (if 0 ≤ s71.2.1 ∧ s71.2.1 < (x0.length : Int) then (if (rd x0 s71.2.1) ≠ 0 then (if 0 ≤ s71.2.1 ∧ s71.2.1 < (s71.2.2.length : Int) then (.next ((w64 (Int.tdiv s71.1 (rd x0 s71.2.1))), (w64 (s71.2.1 - 1)), (put s71.2.2 s71.2.1 (Int.tmod s71.1 (rd x0 s71.2.1)))))
  else .bad)
  else .bad)
  else .bad)
  else (.done (s71.1, s71.2.1, s71.2.2))
noncomputable def shape_Place.f (x0 : (List Int)) (x1 : Int) : Option (List Int) :=
  (shape_Size.f x0).bind fun r23 =>
  if r23.2 = 0 then (if x1 < 0 then (some ([] : (List Int)))
  else (if r23.1 ≤ x1 then (some ([] : (List Int)))
  else (if 0 ≤ (x0.length : Int) ∧ (x0.length : Int) ≤ 1099511627776 then ((loop (shape_Place.l0 x0) (x1, (w64 ((x0.length : Int) - 1)), (List.replicate ((x0.length : Int)).toNat (0 : Int)))).bind fun r72 =>
  some r72.2.2)
  else none)))
  else (some ([] : (List Int)))
set_option maxRecDepth 100000 in
set_option maxHeartbeats 4000000 in
theorem shape_Place.calls (M : List (Option Nat)) (w0 : World) (x0 : (List Int)) (A0 : Option Addr) (n0 c0 : Nat) (e0 : n0 = x0.length) (x1 : Int) (hm0 : Mem [] M w0 [.sl (Kd.int .i64) A0 c0 x0] w0) (r : (List Int)) (H0 : shape_Place.f x0 x1 = some r) :
    Calls Try.prog 72 [.slice A0 n0 c0, .int .i64 x1].toArray w0 (fun x w' => ∃ v, x = .returned v ∧ ∃ Ar0 cr0, v = .slice Ar0 r.length cr0 ∧ Mem [] M w0 [.ow (Kd.int .i64) 3 Ar0 cr0 r] w') := by
  subst e0
  unfold shape_Place.f at H0
  refine enter (n := 51) Try.func72 rfl rfl (by kernel_rfl) fun a0 (hf0 : Fr 51 a0 [(0, .slice A0 x0.length c0), (1, .int .i64 x1)]) => ?_
  refine wp_seq ?_
  refine reg [] [0, 1] [(0, .slice A0 x0.length c0), (1, .int .i64 x1)] [] hf0 (by kernel_rfl) trivial fun a21 hf22 => ?_
  refine thenN ?_
  refine wp_seq ?_
  obtain ⟨r23, hr23, H0⟩ := ob_split H0
  refine inReg ?_
  refine go 1 [] [0, 1, 10] [(0, .slice A0 x0.length c0), (1, .int .i64 x1), (10, .slice A0 x0.length c0)] [] hf22 (by kernel_rfl) trivial fun a24 hf25 => ?_
  refine listOf hf25 rfl (by kernel_rfl) (aCall (fid := 53) (args := [.slice A0 x0.length c0]) (d := 11) hf25 (by kernel_rfl) (by kernel_rfl) callable53 (shape_Size.calls _ _ x0 A0 x0.length c0 rfl (hm0.give [0] [.sl (Kd.int .i64) A0 c0 x0] rfl rfl) r23 hr23) ?_)
  rintro _ w26 a27 ⟨rfl, hk29⟩ hf28
  have hm30 := hm0.still hk29.cum.none
  refine go 5 [] [0, 1, 5, 6] [(0, .slice A0 x0.length c0), (1, .int .i64 x1), (5, .int .i64 r23.1), (6, .int .i64 r23.2)] [] hf28 (by kernel_rfl) trivial fun a31 hf32 => ?_
  refine endL rfl ?_
  refine thenN ?_
  refine wp_seq ?_
  refine wp_seq ?_
  rcases if_split H0 with ⟨c33, H0⟩ | ⟨c33, H0⟩
  rotate_left
  · refine reg [.bool true] [0, 1, 24] [(0, .slice A0 x0.length c0), (1, .int .i64 x1), (24, .bool true)] [.is (((r23.2 : Int) != 0) = true)] hf32 (by kernel_rfl) ⟨(neT c33), trivial⟩ fun a110 hf111 => ?_
    refine thenN ?_
    refine condT hf111 (by kernel_rfl) ?_
    refine wp_seq ?_
    refine reg [] [4] [(4, .slice none 0 0)] [] hf111 (by kernel_rfl) trivial fun a112 hf113 => ?_
    have hm114 := hm30.sel [] _ rfl (by kernel_rfl)
    refine thenN ?_
    refine wp_ret ?_
    refine thenR ?_
    have hm115 := hm114.nilOw (Kd.int .i64) 3
    have hm116 : Mem [] M w0 [.ow (Kd.int .i64) 3 none 0 ([] : (List Int))] w26 := hm115.sel [0] _ rfl (by kernel_rfl)
    obtain rfl := Option.some.inj H0
    refine ret [] [.slice none 0 0] [] hf113 (by kernel_rfl) trivial ?_
    exact ⟨_, rfl, none, 0, rfl, hm116⟩
  rcases if_split H0 with ⟨c34, H0⟩ | ⟨c34, H0⟩
  · refine reg [.bool false, .bool true] [0, 1, 24] [(0, .slice A0 x0.length c0), (1, .int .i64 x1), (24, .bool true)] [.is (((r23.2 : Int) != 0) = false), .is (decide (x1 < 0) = true)] hf32 (by kernel_rfl) ⟨(neF c33), (decide_eq_true c34), trivial⟩ fun a35 hf36 => ?_
    refine thenN ?_
    refine condT hf36 (by kernel_rfl) ?_
    refine wp_seq ?_
    refine reg [] [4] [(4, .slice none 0 0)] [] hf36 (by kernel_rfl) trivial fun a37 hf38 => ?_
    have hm39 := hm30.sel [] _ rfl (by kernel_rfl)
    refine thenN ?_
    refine wp_ret ?_
    refine thenR ?_
    have hm40 := hm39.nilOw (Kd.int .i64) 3
    have hm41 : Mem [] M w0 [.ow (Kd.int .i64) 3 none 0 ([] : (List Int))] w26 := hm40.sel [0] _ rfl (by kernel_rfl)
    obtain rfl := Option.some.inj H0
    refine ret [] [.slice none 0 0] [] hf38 (by kernel_rfl) trivial ?_
    exact ⟨_, rfl, none, 0, rfl, hm41⟩
  rcases if_split H0 with ⟨c43, H0⟩ | ⟨c43, H0⟩
  · refine reg [.bool false, .bool false, .bool true] [0, 1, 24] [(0, .slice A0 x0.length c0), (1, .int .i64 x1), (24, .bool true)] [.is (((r23.2 : Int) != 0) = false), .is (decide (x1 < 0) = false), .is (decide (r23.1 ≤ x1) = true)] hf32 (by kernel_rfl) ⟨(neF c33), (decide_eq_false c34), (decide_eq_true c43), trivial⟩ fun a44 hf45 => ?_
    refine thenN ?_
    refine condT hf45 (by kernel_rfl) ?_
    refine wp_seq ?_
    refine reg [] [4] [(4, .slice none 0 0)] [] hf45 (by kernel_rfl) trivial fun a46 hf47 => ?_
    have hm48 := hm30.sel [] _ rfl (by kernel_rfl)
    refine thenN ?_
    refine wp_ret ?_
    refine thenR ?_
    have hm49 := hm48.nilOw (Kd.int .i64) 3
    have hm50 : Mem [] M w0 [.ow (Kd.int .i64) 3 none 0 ([] : (List Int))] w26 := hm49.sel [0] _ rfl (by kernel_rfl)
    obtain rfl := Option.some.inj H0
    refine ret [] [.slice none 0 0] [] hf47 (by kernel_rfl) trivial ?_
    exact ⟨_, rfl, none, 0, rfl, hm50⟩
  refine reg [.bool false, .bool false, .bool false] [0, 1, 24] [(0, .slice A0 x0.length c0), (1, .int .i64 x1), (24, .bool false)] [.is (((r23.2 : Int) != 0) = false), .is (decide (x1 < 0) = false), .is (decide (r23.1 ≤ x1) = false)] hf32 (by kernel_rfl) ⟨(neF c33), (decide_eq_false c34), (decide_eq_false c43), trivial⟩ fun a52 hf53 => ?_
  refine thenN ?_
  refine condF hf53 (by kernel_rfl) ?_
  refine wp_skip ?_
  refine thenN ?_
  refine wp_seq ?_
  obtain ⟨g54, H0⟩ := if_guard H0
  refine inReg ?_
  refine go 2 [] [0, 1, 26] [(0, .slice A0 x0.length c0), (1, .int .i64 x1), (26, .int .i64 (x0.length : Int))] [] hf53 (by kernel_rfl) trivial fun a55 hf56 => ?_
  refine listOf hf56 rfl (by kernel_rfl) (aMake (kd := (Kd.int .i64)) (x := 0) (E := 3) (L := (x0.length : Int)) (z := [.int .i64 0]) (sz := 1) (d := 27) hf56 (by kernel_rfl) (by kernel_rfl) rfl (fun _ _ => rfl) g54.1 g54.2 ?_)
  intro A57 c58 w59 a60 ho62 hb65 hg63 hf61
  have hm66 : Mem [] M w0 [.ow (Kd.int .i64) 3 A57 c58 (List.replicate ((x0.length : Int)).toNat (0 : Int)), .sl (Kd.int .i64) A0 c0 x0] w59 := hm30.own (ho62 _) hg63
  refine go 1 [] [0, 1, 7] [(0, .slice A0 x0.length c0), (1, .int .i64 x1), (7, .slice A57 ((List.replicate ((x0.length : Int)).toNat (0 : Int)).length) c58)] [] hf61 (by kernel_rfl) trivial fun a67 hf68 => ?_
  refine endL rfl ?_
  refine thenN ?_
  refine wp_seq ?_
  refine wp_seq ?_
  refine reg [] [0, 1, 7, 8] [(0, .slice A0 x0.length c0), (1, .int .i64 x1), (7, .slice A57 ((List.replicate ((x0.length : Int)).toNat (0 : Int)).length) c58), (8, .int .i64 (w64 ((x0.length : Int) - 1)))] [] hf68 (by kernel_rfl) trivial fun a69 hf70 => ?_
  refine thenN ?_
  obtain ⟨r72, hr72, H0⟩ := ob_split H0
  refine wpBlock (Mid := fun (a : Act) (w : World) => Fr 51 a [(0, .slice A0 x0.length c0), (1, .int .i64 r72.1), (7, .slice A57 r72.2.2.length c58), (8, .int .i64 r72.2.1)] ∧ Mem [] M w0 [.ow (Kd.int .i64) 3 A57 c58 r72.2.2, .sl (Kd.int .i64) A0 c0 x0] w) ?_ ?_
  · refine wpLoop (shape_Place.l0 x0) r72 (fun (s71 : (Int × Int × (List Int))) (a : Act) (w : World) => Fr 51 a [(0, .slice A0 x0.length c0), (1, .int .i64 s71.1), (7, .slice A57 s71.2.2.length c58), (8, .int .i64 s71.2.1)] ∧ Mem [] M w0 [.ow (Kd.int .i64) 3 A57 c58 s71.2.2, .sl (Kd.int .i64) A0 c0 x0] w) (x1, (w64 ((x0.length : Int) - 1)), (List.replicate ((x0.length : Int)).toNat (0 : Int))) hr72 ⟨hf70.sel (l := [0, 1, 7, 8]) (by kernel_rfl), hm66.sel [0, 1] _ rfl (by kernel_rfl)⟩ ?_
    rintro g73 s71 a74 w75 H1 ⟨hf76, hm77⟩
    unfold shape_Place.l0 at H1
    refine wp_seq ?_
    refine wp_seq ?_
    rcases ifS_split H1 with ⟨c78, H1⟩ | ⟨c78, H1⟩
    rotate_left
    · refine reg [.bool false] [0, 1, 7, 8, 32] [(0, .slice A0 x0.length c0), (1, .int .i64 s71.1), (7, .slice A57 s71.2.2.length c58), (8, .int .i64 s71.2.1), (32, .bool false)] [.is (decide (0 ≤ s71.2.1) = false)] hf76 (by kernel_rfl) ⟨(decide_eq_false c78), trivial⟩ fun a99 hf100 => ?_
      refine thenN ?_
      refine condF hf100 (by kernel_rfl) ?_
      refine wp_exit ?_
      refine thenE ?_
      refine thenE ?_
      obtain rfl := Option.some.inj H1
      exact .inl ⟨rfl, hf100.sel (l := [0, 1, 7, 8]) (by kernel_rfl), hm77.sel [0, 1] _ rfl (by kernel_rfl)⟩
    refine reg [.bool true] [0, 1, 7, 8, 32] [(0, .slice A0 x0.length c0), (1, .int .i64 s71.1), (7, .slice A57 s71.2.2.length c58), (8, .int .i64 s71.2.1), (32, .bool true)] [.is (decide (0 ≤ s71.2.1) = true)] hf76 (by kernel_rfl) ⟨(decide_eq_true c78), trivial⟩ fun a79 hf80 => ?_
    refine thenN ?_
    refine condT hf80 (by kernel_rfl) ?_
    refine wp_skip ?_
    refine thenN ?_
    refine wp_seq ?_
    refine wp_block ?_
    refine wp_seq ?_
    obtain ⟨g81, H1⟩ := ifS_guard H1
    obtain ⟨g82, H1⟩ := ifS_guard H1
    obtain ⟨g83, H1⟩ := ifS_guard H1
    have q84 := (hm77.slAt 1 rfl).int s71.2.1 g81.1 g81.2
    have q85 := (hm77.owAt 0 rfl).int s71.2.1 g83.1 g83.2
    refine inReg ?_
    refine go 9 [.int .i64 (rd x0 s71.2.1)] [0, 1, 7, 8, 42, 43] [(0, .slice A0 x0.length c0), (1, .int .i64 s71.1), (7, .slice A57 s71.2.2.length c58), (8, .int .i64 s71.2.1), (42, .int .i64 (Int.tmod s71.1 (rd x0 s71.2.1))), (43, .pointer (some ((ad A57).add ((s71.2.1).toNat * 1))))] [.is (Option.isSome A0 = true), .is (0 ≤ s71.2.1 ∧ s71.2.1 < (x0.length : Int)), .cell ((ad A0).add ((s71.2.1).toNat * 1)) (.int .i64 (rd x0 s71.2.1)), .is ((rd x0 s71.2.1) ≠ 0), .is (Option.isSome A57 = true), .is (0 ≤ s71.2.1 ∧ s71.2.1 < (s71.2.2.length : Int))] hf80 (by kernel_rfl) ⟨q84.1, g81, q84.2, g82, q85.1, g83, trivial⟩ fun a86 hf87 => ?_
    refine listOf hf87 rfl (by kernel_rfl) (aStoreO (kd := (Kd.int .i64)) (base := 0) (E := 3) (A := A57) (c := c58) (xs := s71.2.2) (i := s71.2.1) (x := (Int.tmod s71.1 (rd x0 s71.2.1))) (us := [.int .i64 (Int.tmod s71.1 (rd x0 s71.2.1))]) (sz := 1) hf87 (by kernel_rfl) rfl (by kernel_rfl) (hm77.at 0 rfl) rfl g83.1 g83.2 ?_)
    intro w88 hx89 hg90
    have hm91 := hm77.setOwn 0 _ rfl rfl hx89 hg90 (.inl rfl)
    refine endL rfl ?_
    refine thenN ?_
    have q92 := (hm91.slAt 1 rfl).int s71.2.1 g81.1 g81.2
    refine reg [.int .i64 (rd x0 s71.2.1)] [0, 1, 7, 8] [(0, .slice A0 x0.length c0), (1, .int .i64 (w64 (Int.tdiv s71.1 (rd x0 s71.2.1)))), (7, .slice A57 s71.2.2.length c58), (8, .int .i64 s71.2.1)] [.is (Option.isSome A0 = true), .is (0 ≤ s71.2.1 ∧ s71.2.1 < (x0.length : Int)), .cell ((ad A0).add ((s71.2.1).toNat * 1)) (.int .i64 (rd x0 s71.2.1)), .is ((rd x0 s71.2.1) ≠ 0)] hf87 (by kernel_rfl) ⟨q92.1, g81, q92.2, g82, trivial⟩ fun a93 hf94 => ?_
    refine blkN ?_
    refine thenN ?_
    refine reg [] [0, 1, 7, 8] [(0, .slice A0 x0.length c0), (1, .int .i64 (w64 (Int.tdiv s71.1 (rd x0 s71.2.1)))), (7, .slice A57 s71.2.2.length c58), (8, .int .i64 (w64 (s71.2.1 - 1)))] [] hf94 (by kernel_rfl) trivial fun a95 hf96 => ?_
    have hf97 : Fr 51 a95 [(0, .slice A0 x0.length c0), (1, .int .i64 (w64 (Int.tdiv s71.1 (rd x0 s71.2.1)))), (7, .slice A57 s71.2.2.length c58), (8, .int .i64 (w64 (s71.2.1 - 1)))] := hf96.sel (l := [0, 1, 7, 8]) (by kernel_rfl)
    have hm98 : Mem [] M w0 [.ow (Kd.int .i64) 3 A57 c58 (put s71.2.2 s71.2.1 (Int.tmod s71.1 (rd x0 s71.2.1))), .sl (Kd.int .i64) A0 c0 x0] w88 := hm91.sel [0, 1] _ rfl (by kernel_rfl)
    exact ⟨((w64 (Int.tdiv s71.1 (rd x0 s71.2.1))), (w64 (s71.2.1 - 1)), (put s71.2.2 s71.2.1 (Int.tmod s71.1 (rd x0 s71.2.1)))), H1, (by simpa only [put_length, List.length_nil] using hf97), (by simpa only [put_length, List.length_nil] using hm98)⟩
  rintro a101 w102 ⟨hf103, hm104⟩
  refine thenN ?_
  refine wp_seq ?_
  refine reg [] [4] [(4, .slice A57 r72.2.2.length c58)] [] hf103 (by kernel_rfl) trivial fun a105 hf106 => ?_
  have hm107 := hm104.sel [0] _ rfl (by kernel_rfl)
  refine thenN ?_
  refine wp_ret ?_
  have hm108 : Mem [] M w0 [.ow (Kd.int .i64) 3 A57 c58 r72.2.2] w102 := hm107.sel [0] _ rfl (by kernel_rfl)
  obtain rfl := Option.some.inj H0
  refine ret [] [.slice A57 r72.2.2.length c58] [] hf106 (by kernel_rfl) trivial ?_
  exact ⟨_, rfl, A57, c58, rfl, hm108⟩
end Go.Proofs.Ytkcgiolledmbnab
