/- Printed by gen.py. -/
import Derived.Test.YtkcgiolledmbnaaF0
namespace Go.Proofs.Ytkcgiolledmbnaa
open Go Go.RowKit
set_option linter.unusedSimpArgs false
set_option linter.unusedVariables false
set_option linter.unnecessarySimpa false
/-! ### backstitch/matrix.Mul -/
noncomputable def matrix_Mul.l2 (x0 : Tensor) (s185 : (Int × (List Nat) × (List Nat))) (x1 : Tensor) (s199 : (Int × (List Nat) × (List Nat))) (s213 : (Int × (List Nat))) : Step (Int × (List Nat)) (Int × (List Nat)) :=
  if s213.1 < (rd x0.Shape 1) then (if 0 ≤ (w64 ((w64 (s185.1 * (rd x0.Shape 1))) + s213.1)) ∧ (w64 ((w64 (s185.1 * (rd x0.Shape 1))) + s213.1)) < (x0.Data.length : Int) then (if 0 ≤ (w64 ((w64 (s213.1 * (rd x1.Shape 1))) + s199.1)) ∧ (w64 ((w64 (s213.1 * (rd x1.Shape 1))) + s199.1)) < (x1.Data.length : Int) then (bindS (real_Real_Times.f (rd x0.Data (w64 ((w64 (s185.1 * (rd x0.Shape 1))) + s213.1))) (rd x1.Data (w64 ((w64 (s213.1 * (rd x1.Shape 1))) + s199.1)))) fun r227 =>
  if 0 ≤ s213.1 ∧ s213.1 < (s213.2.length : Int) then (.next ((w64 (s213.1 + 1)), (put s213.2 s213.1 r227)))
  else .bad)
  else .bad)
  else .bad)
  else (.done (s213.1, s213.2))
noncomputable def matrix_Mul.l1 (x1 : Tensor) (x0 : Tensor) (s185 : (Int × (List Nat) × (List Nat))) (s199 : (Int × (List Nat) × (List Nat))) : Step (Int × (List Nat) × (List Nat)) (Int × (List Nat) × (List Nat)) :=
  if s199.1 < (rd x1.Shape 1) then (bindS (loop (matrix_Mul.l2 x0 s185 x1 s199) (0, s199.2.1)) fun r214 =>
  bindS (real_Row.f r214.2) fun r302 =>
  if 0 ≤ (w64 ((w64 (s185.1 * (rd x1.Shape 1))) + s199.1)) ∧ (w64 ((w64 (s185.1 * (rd x1.Shape 1))) + s199.1)) < (s199.2.2.length : Int) then (.next ((w64 (s199.1 + 1)), r214.2, (put s199.2.2 (w64 ((w64 (s185.1 * (rd x1.Shape 1))) + s199.1)) r302)))
  else .bad)
  else (.done (s199.1, s199.2.1, s199.2.2))
noncomputable def matrix_Mul.l0 (x0 : Tensor) (x1 : Tensor) (s185 : (Int × (List Nat) × (List Nat))) : Step (Int × (List Nat) × (List Nat)) (Int × (List Nat) × (List Nat)) :=
  if s185.1 < (rd x0.Shape 0) then (bindS (loop (matrix_Mul.l1 x1 x0 s185) (0, s185.2.1, s185.2.2)) fun r200 =>
  .next ((w64 (s185.1 + 1)), r200.2.1, r200.2.2))
  else (.done (s185.1, s185.2.1, s185.2.2))
noncomputable def matrix_Mul.f (x0 : Tensor) (x1 : Tensor) : Option (Tensor × Int) :=
  (matrix_flat.f x0).bind fun r44 =>
  if r44 = true then ((matrix_flat.f x1).bind fun r46 =>
  if r46 = true then (if (0 : Int) ≤ 1 ∧ 1 < (x0.Shape.length : Int) then (if (0 : Int) ≤ 0 ∧ 0 < (x1.Shape.length : Int) then (if (rd x0.Shape 1) = (rd x1.Shape 0) then (if (0 : Int) ≤ 0 ∧ 0 < (x0.Shape.length : Int) then (if (0 : Int) ≤ 1 ∧ 1 < (x1.Shape.length : Int) then ((shape_Size.f ([(rd x0.Shape 0), (rd x1.Shape 1)] : List Int)).bind fun r128 =>
  if r128.2 = 0 then ((tensor_New.f ([(rd x0.Shape 0), (rd x1.Shape 1)] : List Int) 0).bind fun r141 =>
  if 0 ≤ (rd x0.Shape 1) ∧ (rd x0.Shape 1) ≤ 1099511627776 then ((loop (matrix_Mul.l0 x0 x1) (0, (List.replicate ((rd x0.Shape 1)).toNat (0 : Nat)), r141.1.Data)).bind fun r186 =>
  some ((⟨r141.1.Shape, r186.2.2⟩ : Tensor), 0))
  else none)
  else (some ((⟨([] : (List Int)), ([] : (List Nat))⟩ : Tensor), r128.2)))
  else none)
  else none)
  else (some ((⟨([] : (List Int)), ([] : (List Nat))⟩ : Tensor), 2)))
  else none)
  else none)
  else (some ((⟨([] : (List Int)), ([] : (List Nat))⟩ : Tensor), 2)))
  else (some ((⟨([] : (List Int)), ([] : (List Nat))⟩ : Tensor), 2))
set_option maxRecDepth 100000 in
set_option maxHeartbeats 4000000 in
theorem matrix_Mul.calls (M : List (Option Nat)) (w0 : World) (x0 : Tensor) (A0_0 : Option Addr) (n0_0 c0_0 : Nat) (e0_0 : n0_0 = x0.Shape.length) (A0_1 : Option Addr) (n0_1 c0_1 : Nat) (e0_1 : n0_1 = x0.Data.length) (x1 : Tensor) (A1_0 : Option Addr) (n1_0 c1_0 : Nat) (e1_0 : n1_0 = x1.Shape.length) (A1_1 : Option Addr) (n1_1 c1_1 : Nat) (e1_1 : n1_1 = x1.Data.length) (hm0 : Mem [] M w0 [.sl (Kd.int .i64) A0_0 c0_0 x0.Shape, .sl Kd.float A0_1 c0_1 x0.Data, .sl (Kd.int .i64) A1_0 c1_0 x1.Shape, .sl Kd.float A1_1 c1_1 x1.Data] w0) (r : (Tensor × Int)) (H0 : matrix_Mul.f x0 x1 = some r) :
    Calls Try.prog 34 [.agg #[.slice A0_0 n0_0 c0_0, .slice A0_1 n0_1 c0_1], .agg #[.slice A1_0 n1_0 c1_0, .slice A1_1 n1_1 c1_1]].toArray w0 (fun x w' => ∃ v, x = .returned v ∧ ∃ Ar0_0 cr0_0 Ar0_1 cr0_1, v = .tuple #[.agg #[.slice Ar0_0 r.1.Shape.length cr0_0, .slice Ar0_1 r.1.Data.length cr0_1], .int .i64 r.2] ∧ Mem [] M w0 [.ow (Kd.int .i64) 3 Ar0_0 cr0_0 r.1.Shape, .ow Kd.float 47 Ar0_1 cr0_1 r.1.Data] w') := by
  subst e0_0
  subst e0_1
  subst e1_0
  subst e1_1
  unfold matrix_Mul.f at H0
  refine enter (n := 117) Try.func34 rfl rfl (by kernel_rfl) fun a0 (hf0 : Fr 117 a0 [(0, .agg #[.slice A0_0 x0.Shape.length c0_0, .slice A0_1 x0.Data.length c0_1]), (1, .agg #[.slice A1_0 x1.Shape.length c1_0, .slice A1_1 x1.Data.length c1_1])]) => ?_
  refine wp_seq ?_
  refine inReg ?_
  refine listOf hf0 rfl (by kernel_rfl) (aNew (cs := [.slice A0_0 x0.Shape.length c0_0, .slice A0_1 x0.Data.length c0_1]) (T := 42) (d := 2) hf0 (by kernel_rfl) (by kernel_rfl) ?_)
  intro b21 w22 a23 hbb21 hx25 hg26 hf24
  have hm27 : Mem [] M w0 [.bx b21 [.slice A0_0 x0.Shape.length c0_0, .slice A0_1 x0.Data.length c0_1] 42, .sl (Kd.int .i64) A0_0 c0_0 x0.Shape, .sl Kd.float A0_1 c0_1 x0.Data, .sl (Kd.int .i64) A1_0 c1_0 x1.Shape, .sl Kd.float A1_1 c1_1 x1.Data] w22 := hm0.box hbb21 hx25 hg26
  refine listOf hf24 rfl (by kernel_rfl) (aNew (cs := [.slice A1_0 x1.Shape.length c1_0, .slice A1_1 x1.Data.length c1_1]) (T := 42) (d := 3) hf24 (by kernel_rfl) (by kernel_rfl) ?_)
  intro b28 w29 a30 hbb28 hx32 hg33 hf31
  have hm34 : Mem [] M w0 [.bx b28 [.slice A1_0 x1.Shape.length c1_0, .slice A1_1 x1.Data.length c1_1] 42, .bx b21 [.slice A0_0 x0.Shape.length c0_0, .slice A0_1 x0.Data.length c0_1] 42, .sl (Kd.int .i64) A0_0 c0_0 x0.Shape, .sl Kd.float A0_1 c0_1 x0.Data, .sl (Kd.int .i64) A1_0 c1_0 x1.Shape, .sl Kd.float A1_1 c1_1 x1.Data] w29 := hm27.box hbb28 hx32 hg33
  refine listOf hf31 rfl (by kernel_rfl) (aNew (cs := [.slice none 0 0, .slice none 0 0]) (T := 42) (d := 4) hf31 (by kernel_rfl) (by kernel_rfl) ?_)
  intro b35 w36 a37 hbb35 hx39 hg40 hf38
  have hm41 : Mem [] M w0 [.bx b35 [.slice none 0 0, .slice none 0 0] 42, .bx b28 [.slice A1_0 x1.Shape.length c1_0, .slice A1_1 x1.Data.length c1_1] 42, .bx b21 [.slice A0_0 x0.Shape.length c0_0, .slice A0_1 x0.Data.length c0_1] 42, .sl (Kd.int .i64) A0_0 c0_0 x0.Shape, .sl Kd.float A0_1 c0_1 x0.Data, .sl (Kd.int .i64) A1_0 c1_0 x1.Shape, .sl Kd.float A1_1 c1_1 x1.Data] w36 := hm34.box hbb35 hx39 hg40
  refine go 1 [] [2, 3, 4] [(2, .pointer (some ⟨b21, 0, none⟩)), (3, .pointer (some ⟨b28, 0, none⟩)), (4, .pointer (some ⟨b35, 0, none⟩))] [] hf38 (by kernel_rfl) trivial fun a42 hf43 => ?_
  refine endL rfl ?_
  refine thenN ?_
  refine wp_seq ?_
  refine wp_seq ?_
  obtain ⟨r44, hr44, H0⟩ := ob_split H0
  rcases ifb_split H0 with ⟨c45, H0⟩ | ⟨c45, H0⟩
  · obtain ⟨r46, hr46, H0⟩ := ob_split H0
    rcases ifb_split H0 with ⟨c47, H0⟩ | ⟨c47, H0⟩
    · obtain ⟨g48, H0⟩ := if_guard H0
      obtain ⟨g49, H0⟩ := if_guard H0
      rcases if_split H0 with ⟨c50, H0⟩ | ⟨c50, H0⟩
      · refine midReg (fun (a : Act) (w : World) => Fr 117 a [(2, .pointer (some ⟨b21, 0, none⟩)), (3, .pointer (some ⟨b28, 0, none⟩)), (4, .pointer (some ⟨b35, 0, none⟩)), (36, .bool false)] ∧ Mem [] M w0 [.bx b35 [.slice none 0 0, .slice none 0 0] 42, .bx b28 [.slice A1_0 x1.Shape.length c1_0, .slice A1_1 x1.Data.length c1_1] 42, .bx b21 [.slice A0_0 x0.Shape.length c0_0, .slice A0_1 x0.Data.length c0_1] 42, .sl (Kd.int .i64) A0_0 c0_0 x0.Shape, .sl Kd.float A0_1 c0_1 x0.Data, .sl (Kd.int .i64) A1_0 c1_0 x1.Shape, .sl Kd.float A1_1 c1_1 x1.Data] w) ?_ ?_
        · refine anyG [] (by kernel_rfl) fun w63 hg65 => ?_
          have hm66 : Mem [] M w0 [.bx b35 [.slice none 0 0, .slice none 0 0] 42, .bx b28 [.slice A1_0 x1.Shape.length c1_0, .slice A1_1 x1.Data.length c1_1] 42, .bx b21 [.slice A0_0 x0.Shape.length c0_0, .slice A0_1 x0.Data.length c0_1] 42, .sl (Kd.int .i64) A0_0 c0_0 x0.Shape, .sl Kd.float A0_1 c0_1 x0.Data, .sl (Kd.int .i64) A1_0 c1_0 x1.Shape, .sl Kd.float A1_1 c1_1 x1.Data] w63 := hm41.still hg65
          refine quiet0 [0] [.agg #[.slice A0_0 x0.Shape.length c0_0, .slice A0_1 x0.Data.length c0_1]] [2, 3, 4, 18] #[true, false, false, false, false, false, false, false, false, false, false, false, false, false, false, false, false, false, false] [(2, .pointer (some ⟨b21, 0, none⟩)), (3, .pointer (some ⟨b28, 0, none⟩)), (4, .pointer (some ⟨b35, 0, none⟩)), (18, .agg #[.slice A0_0 x0.Shape.length c0_0, .slice A0_1 x0.Data.length c0_1])] [.cell ⟨b21, 0, none⟩ (.slice A0_0 x0.Shape.length c0_0), .cell ⟨b21, 1, none⟩ (.slice A0_1 x0.Data.length c0_1)] 18 rfl (by kernel_rfl) (fun _ _ _ _ _ h => nomatch h.1) hf43 (by kernel_rfl) ⟨(hm66.cell 2 rfl rfl), (hm66.cell 2 rfl rfl), trivial⟩ fun a85 hf86 => ?_
          refine all1 1 (by kernel_rfl) ?_
          refine opOf hf86 rfl (by kernel_rfl) (aCall (fid := 53) (args := [.agg #[.slice A0_0 x0.Shape.length c0_0, .slice A0_1 x0.Data.length c0_1]]) (d := 19) hf86 (by kernel_rfl) (by kernel_rfl) callable53 (matrix_flat.calls _ _ x0 A0_0 x0.Shape.length c0_0 rfl A0_1 x0.Data.length c0_1 rfl (hm66.give [3, 4] [.sl (Kd.int .i64) A0_0 c0_0 x0.Shape, .sl Kd.float A0_1 c0_1 x0.Data] rfl rfl) r44 hr44) ?_)
          rintro _ w87 a88 ⟨rfl, hk90⟩ hf89
          refine ⟨.inr (Gr.still hk90.cum.none), ?_⟩
          have hm91 : Mem [] M w0 [.bx b35 [.slice none 0 0, .slice none 0 0] 42, .bx b28 [.slice A1_0 x1.Shape.length c1_0, .slice A1_1 x1.Data.length c1_1] 42, .bx b21 [.slice A0_0 x0.Shape.length c0_0, .slice A0_1 x0.Data.length c0_1] 42, .sl (Kd.int .i64) A0_0 c0_0 x0.Shape, .sl Kd.float A0_1 c0_1 x0.Data, .sl (Kd.int .i64) A1_0 c1_0 x1.Shape, .sl Kd.float A1_1 c1_1 x1.Data] w87 := hm66.still hk90.cum.none
          rw [c45] at hf89
          refine quiet0 [2, 3, 4] [.agg #[.slice A1_0 x1.Shape.length c1_0, .slice A1_1 x1.Data.length c1_1]] [2, 3, 4, 21, 22] #[true, true, true, true, true, false, false, false, false, false, false, false, false, false, false, false, false, false, false] [(2, .pointer (some ⟨b21, 0, none⟩)), (3, .pointer (some ⟨b28, 0, none⟩)), (4, .pointer (some ⟨b35, 0, none⟩)), (21, .bool false), (22, .agg #[.slice A1_0 x1.Shape.length c1_0, .slice A1_1 x1.Data.length c1_1])] [.cell ⟨b28, 0, none⟩ (.slice A1_0 x1.Shape.length c1_0), .cell ⟨b28, 1, none⟩ (.slice A1_1 x1.Data.length c1_1)] 14 rfl (by kernel_rfl) (fun _ _ _ _ _ h => nomatch h.1) hf89 (by kernel_rfl) ⟨(hm91.cell 1 rfl rfl), (hm91.cell 1 rfl rfl), trivial⟩ fun a92 hf93 => ?_
          refine all1 5 (by kernel_rfl) ?_
          refine opOf hf93 rfl (by kernel_rfl) (aCall (fid := 53) (args := [.agg #[.slice A1_0 x1.Shape.length c1_0, .slice A1_1 x1.Data.length c1_1]]) (d := 23) hf93 (by kernel_rfl) (by kernel_rfl) callable53 (matrix_flat.calls _ _ x1 A1_0 x1.Shape.length c1_0 rfl A1_1 x1.Data.length c1_1 rfl (hm91.give [5, 6] [.sl (Kd.int .i64) A1_0 c1_0 x1.Shape, .sl Kd.float A1_1 c1_1 x1.Data] rfl rfl) r46 hr46) ?_)
          rintro _ w94 a95 ⟨rfl, hk97⟩ hf96
          refine ⟨.inr (Gr.still hk97.cum.none), ?_⟩
          have hm98 : Mem [] M w0 [.bx b35 [.slice none 0 0, .slice none 0 0] 42, .bx b28 [.slice A1_0 x1.Shape.length c1_0, .slice A1_1 x1.Data.length c1_1] 42, .bx b21 [.slice A0_0 x0.Shape.length c0_0, .slice A0_1 x0.Data.length c0_1] 42, .sl (Kd.int .i64) A0_0 c0_0 x0.Shape, .sl Kd.float A0_1 c0_1 x0.Data, .sl (Kd.int .i64) A1_0 c1_0 x1.Shape, .sl Kd.float A1_1 c1_1 x1.Data] w94 := hm91.still hk97.cum.none
          rw [c47] at hf96
          have q99 := (hm98.slAt 3 rfl).int 1 g48.1 g48.2
          have q100 := (hm98.slAt 5 rfl).int 0 g49.1 g49.2
          refine quiet0 [6, 7, 8, 9, 10, 11, 12, 13, 14, 15, 16, 17, 18] [.slice A0_0 x0.Shape.length c0_0, .int .i64 (rd x0.Shape 1), .slice A1_0 x1.Shape.length c1_0, .int .i64 (rd x1.Shape 0), .bool false] [2, 3, 4, 36] #[true, true, true, true, true, true, true, true, true, true, true, true, true, true, true, true, true, true, true] [(2, .pointer (some ⟨b21, 0, none⟩)), (3, .pointer (some ⟨b28, 0, none⟩)), (4, .pointer (some ⟨b35, 0, none⟩)), (36, .bool false)] [.cell ⟨b21, 0, none⟩ (.slice A0_0 x0.Shape.length c0_0), .is (Option.isSome A0_0 = true), .is ((0 : Int) ≤ 1 ∧ 1 < (x0.Shape.length : Int)), .cell ((ad A0_0).add ((1 : Int).toNat * 1)) (.int .i64 (rd x0.Shape 1)), .cell ⟨b28, 0, none⟩ (.slice A1_0 x1.Shape.length c1_0), .is (Option.isSome A1_0 = true), .is ((0 : Int) ≤ 0 ∧ 0 < (x1.Shape.length : Int)), .cell ((ad A1_0).add ((0 : Int).toNat * 1)) (.int .i64 (rd x1.Shape 0)), .is ((((rd x0.Shape 1) : Int) != (rd x1.Shape 0)) = false)] 0 rfl (by kernel_rfl) (fun _ _ _ _ _ h => nomatch h.1) hf96 (by kernel_rfl) ⟨(hm98.cell 2 rfl rfl), q99.1, g48, q99.2, (hm98.cell 1 rfl rfl), q100.1, g49, q100.2, (neF c50), trivial⟩ fun a101 hf102 => ?_
          refine allDone (by kernel_rfl) ⟨rfl, hf102.sel (l := [2, 3, 4, 36]) (by kernel_rfl), hm98.sel [0, 1, 2, 3, 4, 5, 6] _ rfl (by kernel_rfl)⟩
        rintro a103 w104 ⟨hf105, hm106⟩
        refine thenN ?_
        refine condF hf105 (by kernel_rfl) ?_
        refine wp_skip ?_
        refine thenN ?_
        refine wp_seq ?_
        obtain ⟨g107, H0⟩ := if_guard H0
        obtain ⟨g108, H0⟩ := if_guard H0
        have q109 := (hm106.slAt 3 rfl).int 0 g107.1 g107.2
        have q110 := (hm106.slAt 3 rfl).int 1 g48.1 g48.2
        have q111 := (hm106.slAt 5 rfl).int 1 g108.1 g108.2
        refine regQ [.slice A0_0 x0.Shape.length c0_0, .int .i64 (rd x0.Shape 0), .slice A0_0 x0.Shape.length c0_0, .int .i64 (rd x0.Shape 1), .slice A1_0 x1.Shape.length c1_0, .int .i64 (rd x1.Shape 1)] [2, 3, 4, 6, 7, 8] [(2, .pointer (some ⟨b21, 0, none⟩)), (3, .pointer (some ⟨b28, 0, none⟩)), (4, .pointer (some ⟨b35, 0, none⟩)), (6, .int .i64 (rd x0.Shape 0)), (7, .int .i64 (rd x0.Shape 1)), (8, .int .i64 (rd x1.Shape 1))] [.cell ⟨b21, 0, none⟩ (.slice A0_0 x0.Shape.length c0_0), .is (Option.isSome A0_0 = true), .is ((0 : Int) ≤ 0 ∧ 0 < (x0.Shape.length : Int)), .cell ((ad A0_0).add ((0 : Int).toNat * 1)) (.int .i64 (rd x0.Shape 0)), .cell ⟨b21, 0, none⟩ (.slice A0_0 x0.Shape.length c0_0), .is (Option.isSome A0_0 = true), .is ((0 : Int) ≤ 1 ∧ 1 < (x0.Shape.length : Int)), .cell ((ad A0_0).add ((1 : Int).toNat * 1)) (.int .i64 (rd x0.Shape 1)), .cell ⟨b28, 0, none⟩ (.slice A1_0 x1.Shape.length c1_0), .is (Option.isSome A1_0 = true), .is ((0 : Int) ≤ 1 ∧ 1 < (x1.Shape.length : Int)), .cell ((ad A1_0).add ((1 : Int).toNat * 1)) (.int .i64 (rd x1.Shape 1))] (by kernel_rfl) (by kernel_rfl) hf105 (by kernel_rfl) ⟨(hm106.cell 2 rfl rfl), q109.1, g107, q109.2, (hm106.cell 2 rfl rfl), q110.1, g48, q110.2, (hm106.cell 1 rfl rfl), q111.1, g108, q111.2, trivial⟩ fun a112 w114 hf113 hg115 => ?_
        have hm116 : Mem [] M w0 [.bx b35 [.slice none 0 0, .slice none 0 0] 42, .bx b28 [.slice A1_0 x1.Shape.length c1_0, .slice A1_1 x1.Data.length c1_1] 42, .bx b21 [.slice A0_0 x0.Shape.length c0_0, .slice A0_1 x0.Data.length c0_1] 42, .sl (Kd.int .i64) A0_0 c0_0 x0.Shape, .sl Kd.float A0_1 c0_1 x0.Data, .sl (Kd.int .i64) A1_0 c1_0 x1.Shape, .sl Kd.float A1_1 c1_1 x1.Data] w114 := hm106.still hg115
        refine thenN ?_
        refine wp_seq ?_
        refine inReg ?_
        refine go 2 [] [2, 3, 4, 6, 7, 8, 50, 51] [(2, .pointer (some ⟨b21, 0, none⟩)), (3, .pointer (some ⟨b28, 0, none⟩)), (4, .pointer (some ⟨b35, 0, none⟩)), (6, .int .i64 (rd x0.Shape 0)), (7, .int .i64 (rd x0.Shape 1)), (8, .int .i64 (rd x1.Shape 1)), (50, .int .i64 (rd x0.Shape 0)), (51, .int .i64 (rd x1.Shape 1))] [] hf113 (by kernel_rfl) trivial fun a117 hf118 => ?_
        refine listOf hf118 rfl (by kernel_rfl) (aLit (cs := [.int .i64 (rd x0.Shape 0), .int .i64 (rd x1.Shape 1)]) (E := 3) (len := 2) (d := 52) hf118 (by kernel_rfl) (by kernel_rfl) ?_)
        intro b119 w120 a121 hbb119 hx123 hg124 hf122
        have hm116s := hm116.still hg124
        have hm125 : Mem [] M w0 [.sl (Kd.int .i64) (some ⟨b119, 0, none⟩) 2 ([(rd x0.Shape 0), (rd x1.Shape 1)] : List Int), .bx b35 [.slice none 0 0, .slice none 0 0] 42, .bx b28 [.slice A1_0 x1.Shape.length c1_0, .slice A1_1 x1.Data.length c1_1] 42, .bx b21 [.slice A0_0 x0.Shape.length c0_0, .slice A0_1 x0.Data.length c0_1] 42, .sl (Kd.int .i64) A0_0 c0_0 x0.Shape, .sl Kd.float A0_1 c0_1 x0.Data, .sl (Kd.int .i64) A1_0 c1_0 x1.Shape, .sl Kd.float A1_1 c1_1 x1.Data] w120 := Mem.lit (kd := (Kd.int .i64)) (xs := ([(rd x0.Shape 0), (rd x1.Shape 1)] : List Int)) hm116 hbb119 hx123 hg124 (Els.append (Els.one (kd := (Kd.int .i64)) (us := [.int .i64 (rd x0.Shape 0)]) (x := (rd x0.Shape 0)) rfl) (Els.one (kd := (Kd.int .i64)) (us := [.int .i64 (rd x1.Shape 1)]) (x := (rd x1.Shape 1)) rfl))
        refine go 1 [] [2, 3, 4, 6, 7, 8, 9] [(2, .pointer (some ⟨b21, 0, none⟩)), (3, .pointer (some ⟨b28, 0, none⟩)), (4, .pointer (some ⟨b35, 0, none⟩)), (6, .int .i64 (rd x0.Shape 0)), (7, .int .i64 (rd x0.Shape 1)), (8, .int .i64 (rd x1.Shape 1)), (9, .slice (some ⟨b119, 0, none⟩) 2 2)] [] hf122 (by kernel_rfl) trivial fun a126 hf127 => ?_
        refine endL rfl ?_
        refine thenN ?_
        refine wp_seq ?_
        refine wp_seq ?_
        obtain ⟨r128, hr128, H0⟩ := ob_split H0
        refine inReg ?_
        refine go 1 [] [2, 3, 4, 6, 7, 8, 9, 54] [(2, .pointer (some ⟨b21, 0, none⟩)), (3, .pointer (some ⟨b28, 0, none⟩)), (4, .pointer (some ⟨b35, 0, none⟩)), (6, .int .i64 (rd x0.Shape 0)), (7, .int .i64 (rd x0.Shape 1)), (8, .int .i64 (rd x1.Shape 1)), (9, .slice (some ⟨b119, 0, none⟩) 2 2), (54, .slice (some ⟨b119, 0, none⟩) 2 2)] [] hf127 (by kernel_rfl) trivial fun a129 hf130 => ?_
        refine listOf hf130 rfl (by kernel_rfl) (aCall (fid := 21) (args := [.slice (some ⟨b119, 0, none⟩) 2 2]) (d := 55) hf130 (by kernel_rfl) (by kernel_rfl) callable21 (shape_Size.calls _ _ ([(rd x0.Shape 0), (rd x1.Shape 1)] : List Int) (some ⟨b119, 0, none⟩) 2 2 rfl (hm125.give [0] [.sl (Kd.int .i64) (some ⟨b119, 0, none⟩) 2 ([(rd x0.Shape 0), (rd x1.Shape 1)] : List Int)] rfl rfl) r128 hr128) ?_)
        rintro _ w131 a132 ⟨rfl, hk134⟩ hf133
        have hm135 : Mem [] M w0 [.sl (Kd.int .i64) (some ⟨b119, 0, none⟩) 2 ([(rd x0.Shape 0), (rd x1.Shape 1)] : List Int), .bx b35 [.slice none 0 0, .slice none 0 0] 42, .bx b28 [.slice A1_0 x1.Shape.length c1_0, .slice A1_1 x1.Data.length c1_1] 42, .bx b21 [.slice A0_0 x0.Shape.length c0_0, .slice A0_1 x0.Data.length c0_1] 42, .sl (Kd.int .i64) A0_0 c0_0 x0.Shape, .sl Kd.float A0_1 c0_1 x0.Data, .sl (Kd.int .i64) A1_0 c1_0 x1.Shape, .sl Kd.float A1_1 c1_1 x1.Data] w131 := hm125.still hk134.cum.none
        refine go 5 [] [2, 3, 4, 6, 7, 8, 9, 11] [(2, .pointer (some ⟨b21, 0, none⟩)), (3, .pointer (some ⟨b28, 0, none⟩)), (4, .pointer (some ⟨b35, 0, none⟩)), (6, .int .i64 (rd x0.Shape 0)), (7, .int .i64 (rd x0.Shape 1)), (8, .int .i64 (rd x1.Shape 1)), (9, .slice (some ⟨b119, 0, none⟩) 2 2), (11, .int .i64 r128.2)] [] hf133 (by kernel_rfl) trivial fun a136 hf137 => ?_
        refine endL rfl ?_
        refine thenN ?_
        refine wp_seq ?_
        rcases if_split H0 with ⟨c138, H0⟩ | ⟨c138, H0⟩
        · refine reg [.bool false] [2, 3, 4, 6, 7, 8, 9, 11, 59] [(2, .pointer (some ⟨b21, 0, none⟩)), (3, .pointer (some ⟨b28, 0, none⟩)), (4, .pointer (some ⟨b35, 0, none⟩)), (6, .int .i64 (rd x0.Shape 0)), (7, .int .i64 (rd x0.Shape 1)), (8, .int .i64 (rd x1.Shape 1)), (9, .slice (some ⟨b119, 0, none⟩) 2 2), (11, .int .i64 r128.2), (59, .bool false)] [.is (((r128.2 : Int) != 0) = false)] hf137 (by kernel_rfl) ⟨(neF c138), trivial⟩ fun a139 hf140 => ?_
          refine thenN ?_
          refine condF hf140 (by kernel_rfl) ?_
          refine wp_skip ?_
          refine thenN ?_
          refine wp_seq ?_
          obtain ⟨r141, hr141, H0⟩ := ob_split H0
          refine inReg ?_
          refine go 1 [] [2, 3, 4, 6, 7, 8, 63] [(2, .pointer (some ⟨b21, 0, none⟩)), (3, .pointer (some ⟨b28, 0, none⟩)), (4, .pointer (some ⟨b35, 0, none⟩)), (6, .int .i64 (rd x0.Shape 0)), (7, .int .i64 (rd x0.Shape 1)), (8, .int .i64 (rd x1.Shape 1)), (63, .slice (some ⟨b119, 0, none⟩) 2 2)] [] hf140 (by kernel_rfl) trivial fun a142 hf143 => ?_
          refine listOf hf143 rfl (by kernel_rfl) (aCall (fid := 54) (args := [.slice (some ⟨b119, 0, none⟩) 2 2, .float .f64 0]) (d := 64) hf143 (by kernel_rfl) (by kernel_rfl) callable54 (tensor_New.calls _ _ ([(rd x0.Shape 0), (rd x1.Shape 1)] : List Int) (some ⟨b119, 0, none⟩) 2 2 rfl 0 0 ((FR.lit (by kernel_rfl) (by kernel_rfl))) (hm135.give [0] [.sl (Kd.int .i64) (some ⟨b119, 0, none⟩) 2 ([(rd x0.Shape 0), (rd x1.Shape 1)] : List Int)] rfl rfl) r141 hr141) ?_)
          rintro _ w148 a149 ⟨A144, c145, A146, c147, rfl, hk151⟩ hf150
          have hm152 : Mem [] M w0 [.ow (Kd.int .i64) 3 A144 c145 r141.1.Shape, .ow Kd.float 47 A146 c147 r141.1.Data, .sl (Kd.int .i64) (some ⟨b119, 0, none⟩) 2 ([(rd x0.Shape 0), (rd x1.Shape 1)] : List Int), .bx b35 [.slice none 0 0, .slice none 0 0] 42, .bx b28 [.slice A1_0 x1.Shape.length c1_0, .slice A1_1 x1.Data.length c1_1] 42, .bx b21 [.slice A0_0 x0.Shape.length c0_0, .slice A0_1 x0.Data.length c0_1] 42, .sl (Kd.int .i64) A0_0 c0_0 x0.Shape, .sl Kd.float A0_1 c0_1 x0.Data, .sl (Kd.int .i64) A1_0 c1_0 x1.Shape, .sl Kd.float A1_1 c1_1 x1.Data] w148 := hm135.back hk151
          refine go 3 [] [2, 3, 4, 6, 7, 8, 65, 66] [(2, .pointer (some ⟨b21, 0, none⟩)), (3, .pointer (some ⟨b28, 0, none⟩)), (4, .pointer (some ⟨b35, 0, none⟩)), (6, .int .i64 (rd x0.Shape 0)), (7, .int .i64 (rd x0.Shape 1)), (8, .int .i64 (rd x1.Shape 1)), (65, .agg #[.slice A144 r141.1.Shape.length c145, .slice A146 r141.1.Data.length c147]), (66, .int .i64 r141.2)] [] hf150 (by kernel_rfl) trivial fun a153 hf154 => ?_
          refine listOf hf154 rfl (by kernel_rfl) (aNew (cs := [.slice none 0 0, .slice none 0 0]) (T := 42) (d := 12) hf154 (by kernel_rfl) (by kernel_rfl) ?_)
          intro b155 w156 a157 hbb155 hx159 hg160 hf158
          have hm161 : Mem [] M w0 [.bx b155 [.slice none 0 0, .slice none 0 0] 42, .ow (Kd.int .i64) 3 A144 c145 r141.1.Shape, .ow Kd.float 47 A146 c147 r141.1.Data, .sl (Kd.int .i64) (some ⟨b119, 0, none⟩) 2 ([(rd x0.Shape 0), (rd x1.Shape 1)] : List Int), .bx b35 [.slice none 0 0, .slice none 0 0] 42, .bx b28 [.slice A1_0 x1.Shape.length c1_0, .slice A1_1 x1.Data.length c1_1] 42, .bx b21 [.slice A0_0 x0.Shape.length c0_0, .slice A0_1 x0.Data.length c0_1] 42, .sl (Kd.int .i64) A0_0 c0_0 x0.Shape, .sl Kd.float A0_1 c0_1 x0.Data, .sl (Kd.int .i64) A1_0 c1_0 x1.Shape, .sl Kd.float A1_1 c1_1 x1.Data] w156 := hm152.box hbb155 hx159 hg160
          refine listOf hf158 rfl (by kernel_rfl) (aStoreB (b := b155) (j := 0) (T := 42) (cs := [.slice none 0 0, .slice none 0 0]) (us := [.slice A144 r141.1.Shape.length c145, .slice A146 r141.1.Data.length c147]) (cs' := [.slice A144 r141.1.Shape.length c145, .slice A146 r141.1.Data.length c147]) hf158 (by kernel_rfl) (hm161.bxAt 0 rfl) (by kernel_rfl) (by kernel_rfl) (by kernel_rfl) ?_)
          intro w162 hx163 hg164
          have hm165 : Mem [] M w0 [.bx b155 [.slice A144 r141.1.Shape.length c145, .slice A146 r141.1.Data.length c147] 42, .ow (Kd.int .i64) 3 A144 c145 r141.1.Shape, .ow Kd.float 47 A146 c147 r141.1.Data, .sl (Kd.int .i64) (some ⟨b119, 0, none⟩) 2 ([(rd x0.Shape 0), (rd x1.Shape 1)] : List Int), .bx b35 [.slice none 0 0, .slice none 0 0] 42, .bx b28 [.slice A1_0 x1.Shape.length c1_0, .slice A1_1 x1.Data.length c1_1] 42, .bx b21 [.slice A0_0 x0.Shape.length c0_0, .slice A0_1 x0.Data.length c0_1] 42, .sl (Kd.int .i64) A0_0 c0_0 x0.Shape, .sl Kd.float A0_1 c0_1 x0.Data, .sl (Kd.int .i64) A1_0 c1_0 x1.Shape, .sl Kd.float A1_1 c1_1 x1.Data] w162 := hm161.setBox 0 _ rfl rfl hx163 hg164
          refine go 1 [] [2, 3, 4, 6, 7, 8, 12] [(2, .pointer (some ⟨b21, 0, none⟩)), (3, .pointer (some ⟨b28, 0, none⟩)), (4, .pointer (some ⟨b35, 0, none⟩)), (6, .int .i64 (rd x0.Shape 0)), (7, .int .i64 (rd x0.Shape 1)), (8, .int .i64 (rd x1.Shape 1)), (12, .pointer (some ⟨b155, 0, none⟩))] [] hf158 (by kernel_rfl) trivial fun a166 hf167 => ?_
          refine endL rfl ?_
          have hm168 : Mem [] M w0 [.bx b155 [.slice A144 r141.1.Shape.length c145, .slice A146 r141.1.Data.length c147] 42, .ow (Kd.int .i64) 3 A144 c145 r141.1.Shape, .ow Kd.float 47 A146 c147 r141.1.Data, .bx b35 [.slice none 0 0, .slice none 0 0] 42, .bx b28 [.slice A1_0 x1.Shape.length c1_0, .slice A1_1 x1.Data.length c1_1] 42, .bx b21 [.slice A0_0 x0.Shape.length c0_0, .slice A0_1 x0.Data.length c0_1] 42, .sl (Kd.int .i64) A0_0 c0_0 x0.Shape, .sl Kd.float A0_1 c0_1 x0.Data, .sl (Kd.int .i64) A1_0 c1_0 x1.Shape, .sl Kd.float A1_1 c1_1 x1.Data] w162 := hm165.sel [0, 1, 2, 4, 5, 6, 7, 8, 9, 10] _ rfl (by kernel_rfl)
          refine thenN ?_
          refine wp_seq ?_
          obtain ⟨g169, H0⟩ := if_guard H0
          refine inReg ?_
          refine go 1 [] [2, 3, 4, 6, 7, 8, 12, 67] [(2, .pointer (some ⟨b21, 0, none⟩)), (3, .pointer (some ⟨b28, 0, none⟩)), (4, .pointer (some ⟨b35, 0, none⟩)), (6, .int .i64 (rd x0.Shape 0)), (7, .int .i64 (rd x0.Shape 1)), (8, .int .i64 (rd x1.Shape 1)), (12, .pointer (some ⟨b155, 0, none⟩)), (67, .int .i64 (rd x0.Shape 1))] [] hf167 (by kernel_rfl) trivial fun a170 hf171 => ?_
          refine listOf hf171 rfl (by kernel_rfl) (aMake (kd := Kd.float) (x := 0) (E := 47) (L := (rd x0.Shape 1)) (z := [.float .f64 0]) (sz := 1) (d := 68) hf171 (by kernel_rfl) (by kernel_rfl) rfl (fun _ _ => ⟨0, rfl, FR.lit (by kernel_rfl) (by kernel_rfl)⟩) g169.1 g169.2 ?_)
          intro A172 c173 w174 a175 ho177 hb179 hg178 hf176
          have hm180 : Mem [] M w0 [.ow Kd.float 47 A172 c173 (List.replicate ((rd x0.Shape 1)).toNat (0 : Nat)), .bx b155 [.slice A144 r141.1.Shape.length c145, .slice A146 r141.1.Data.length c147] 42, .ow (Kd.int .i64) 3 A144 c145 r141.1.Shape, .ow Kd.float 47 A146 c147 r141.1.Data, .bx b35 [.slice none 0 0, .slice none 0 0] 42, .bx b28 [.slice A1_0 x1.Shape.length c1_0, .slice A1_1 x1.Data.length c1_1] 42, .bx b21 [.slice A0_0 x0.Shape.length c0_0, .slice A0_1 x0.Data.length c0_1] 42, .sl (Kd.int .i64) A0_0 c0_0 x0.Shape, .sl Kd.float A0_1 c0_1 x0.Data, .sl (Kd.int .i64) A1_0 c1_0 x1.Shape, .sl Kd.float A1_1 c1_1 x1.Data] w174 := hm168.own (ho177 _) hg178
          refine go 1 [] [2, 3, 4, 6, 7, 8, 12, 14] [(2, .pointer (some ⟨b21, 0, none⟩)), (3, .pointer (some ⟨b28, 0, none⟩)), (4, .pointer (some ⟨b35, 0, none⟩)), (6, .int .i64 (rd x0.Shape 0)), (7, .int .i64 (rd x0.Shape 1)), (8, .int .i64 (rd x1.Shape 1)), (12, .pointer (some ⟨b155, 0, none⟩)), (14, .slice A172 ((List.replicate ((rd x0.Shape 1)).toNat (0 : Nat)).length) c173)] [] hf176 (by kernel_rfl) trivial fun a181 hf182 => ?_
          refine endL rfl ?_
          refine thenN ?_
          refine wp_seq ?_
          refine wp_seq ?_
          refine reg [] [2, 3, 4, 7, 8, 12, 14, 69, 70] [(2, .pointer (some ⟨b21, 0, none⟩)), (3, .pointer (some ⟨b28, 0, none⟩)), (4, .pointer (some ⟨b35, 0, none⟩)), (7, .int .i64 (rd x0.Shape 1)), (8, .int .i64 (rd x1.Shape 1)), (12, .pointer (some ⟨b155, 0, none⟩)), (14, .slice A172 ((List.replicate ((rd x0.Shape 1)).toNat (0 : Nat)).length) c173), (69, .int .i64 (rd x0.Shape 0)), (70, .int .i64 0)] [] hf182 (by kernel_rfl) trivial fun a183 hf184 => ?_
          refine thenN ?_
          obtain ⟨r186, hr186, H0⟩ := ob_split H0
          refine wpBlock (Mid := fun (a : Act) (w : World) => Fr 117 a [(2, .pointer (some ⟨b21, 0, none⟩)), (3, .pointer (some ⟨b28, 0, none⟩)), (4, .pointer (some ⟨b35, 0, none⟩)), (7, .int .i64 (rd x0.Shape 1)), (8, .int .i64 (rd x1.Shape 1)), (12, .pointer (some ⟨b155, 0, none⟩)), (14, .slice A172 r186.2.1.length c173), (69, .int .i64 (rd x0.Shape 0)), (70, .int .i64 r186.1)] ∧ Mem [] M w0 [.ow Kd.float 47 A172 c173 r186.2.1, .bx b155 [.slice A144 r141.1.Shape.length c145, .slice A146 r186.2.2.length c147] 42, .ow (Kd.int .i64) 3 A144 c145 r141.1.Shape, .ow Kd.float 47 A146 c147 r186.2.2, .bx b35 [.slice none 0 0, .slice none 0 0] 42, .bx b28 [.slice A1_0 x1.Shape.length c1_0, .slice A1_1 x1.Data.length c1_1] 42, .bx b21 [.slice A0_0 x0.Shape.length c0_0, .slice A0_1 x0.Data.length c0_1] 42, .sl (Kd.int .i64) A0_0 c0_0 x0.Shape, .sl Kd.float A0_1 c0_1 x0.Data, .sl (Kd.int .i64) A1_0 c1_0 x1.Shape, .sl Kd.float A1_1 c1_1 x1.Data] w) ?_ ?_
          · refine wpLoop (matrix_Mul.l0 x0 x1) r186 (fun (s185 : (Int × (List Nat) × (List Nat))) (a : Act) (w : World) => Fr 117 a [(2, .pointer (some ⟨b21, 0, none⟩)), (3, .pointer (some ⟨b28, 0, none⟩)), (4, .pointer (some ⟨b35, 0, none⟩)), (7, .int .i64 (rd x0.Shape 1)), (8, .int .i64 (rd x1.Shape 1)), (12, .pointer (some ⟨b155, 0, none⟩)), (14, .slice A172 s185.2.1.length c173), (69, .int .i64 (rd x0.Shape 0)), (70, .int .i64 s185.1)] ∧ Mem [] M w0 [.ow Kd.float 47 A172 c173 s185.2.1, .bx b155 [.slice A144 r141.1.Shape.length c145, .slice A146 s185.2.2.length c147] 42, .ow (Kd.int .i64) 3 A144 c145 r141.1.Shape, .ow Kd.float 47 A146 c147 s185.2.2, .bx b35 [.slice none 0 0, .slice none 0 0] 42, .bx b28 [.slice A1_0 x1.Shape.length c1_0, .slice A1_1 x1.Data.length c1_1] 42, .bx b21 [.slice A0_0 x0.Shape.length c0_0, .slice A0_1 x0.Data.length c0_1] 42, .sl (Kd.int .i64) A0_0 c0_0 x0.Shape, .sl Kd.float A0_1 c0_1 x0.Data, .sl (Kd.int .i64) A1_0 c1_0 x1.Shape, .sl Kd.float A1_1 c1_1 x1.Data] w) (0, (List.replicate ((rd x0.Shape 1)).toNat (0 : Nat)), r141.1.Data) hr186 ⟨hf184.sel (l := [2, 3, 4, 7, 8, 12, 14, 69, 70]) (by kernel_rfl), hm180.sel [0, 1, 2, 3, 4, 5, 6, 7, 8, 9, 10] _ rfl (by kernel_rfl)⟩ ?_
            rintro g187 s185 a188 w189 H1 ⟨hf190, hm191⟩
            unfold matrix_Mul.l0 at H1
            refine wp_seq ?_
            rcases ifS_split H1 with ⟨c192, H1⟩ | ⟨c192, H1⟩
            · refine reg [.bool true] [2, 3, 4, 7, 8, 12, 14, 69, 70, 71] [(2, .pointer (some ⟨b21, 0, none⟩)), (3, .pointer (some ⟨b28, 0, none⟩)), (4, .pointer (some ⟨b35, 0, none⟩)), (7, .int .i64 (rd x0.Shape 1)), (8, .int .i64 (rd x1.Shape 1)), (12, .pointer (some ⟨b155, 0, none⟩)), (14, .slice A172 s185.2.1.length c173), (69, .int .i64 (rd x0.Shape 0)), (70, .int .i64 s185.1), (71, .bool true)] [.is (decide (s185.1 < (rd x0.Shape 0)) = true)] hf190 (by kernel_rfl) ⟨(decide_eq_true c192), trivial⟩ fun a193 hf194 => ?_
              refine thenN ?_
              refine wp_seq ?_
              refine condT hf194 (by kernel_rfl) ?_
              refine wp_skip ?_
              refine thenN ?_
              refine wp_seq ?_
              refine wp_block ?_
              refine wp_seq ?_
              refine reg [] [2, 3, 4, 7, 8, 12, 14, 15, 69, 70] [(2, .pointer (some ⟨b21, 0, none⟩)), (3, .pointer (some ⟨b28, 0, none⟩)), (4, .pointer (some ⟨b35, 0, none⟩)), (7, .int .i64 (rd x0.Shape 1)), (8, .int .i64 (rd x1.Shape 1)), (12, .pointer (some ⟨b155, 0, none⟩)), (14, .slice A172 s185.2.1.length c173), (15, .int .i64 s185.1), (69, .int .i64 (rd x0.Shape 0)), (70, .int .i64 s185.1)] [] hf194 (by kernel_rfl) trivial fun a195 hf196 => ?_
              refine thenN ?_
              refine wp_seq ?_
              refine reg [] [2, 3, 4, 7, 8, 12, 14, 15, 69, 70, 73, 74] [(2, .pointer (some ⟨b21, 0, none⟩)), (3, .pointer (some ⟨b28, 0, none⟩)), (4, .pointer (some ⟨b35, 0, none⟩)), (7, .int .i64 (rd x0.Shape 1)), (8, .int .i64 (rd x1.Shape 1)), (12, .pointer (some ⟨b155, 0, none⟩)), (14, .slice A172 s185.2.1.length c173), (15, .int .i64 s185.1), (69, .int .i64 (rd x0.Shape 0)), (70, .int .i64 s185.1), (73, .int .i64 (rd x1.Shape 1)), (74, .int .i64 0)] [] hf196 (by kernel_rfl) trivial fun a197 hf198 => ?_
              refine thenN ?_
              obtain ⟨r200, hr200, H1⟩ := obS_split H1
              refine wpBlock (Mid := fun (a : Act) (w : World) => Fr 117 a [(2, .pointer (some ⟨b21, 0, none⟩)), (3, .pointer (some ⟨b28, 0, none⟩)), (4, .pointer (some ⟨b35, 0, none⟩)), (7, .int .i64 (rd x0.Shape 1)), (8, .int .i64 (rd x1.Shape 1)), (12, .pointer (some ⟨b155, 0, none⟩)), (14, .slice A172 r200.2.1.length c173), (15, .int .i64 s185.1), (69, .int .i64 (rd x0.Shape 0)), (70, .int .i64 s185.1), (73, .int .i64 (rd x1.Shape 1)), (74, .int .i64 r200.1)] ∧ Mem [] M w0 [.ow Kd.float 47 A172 c173 r200.2.1, .bx b155 [.slice A144 r141.1.Shape.length c145, .slice A146 r200.2.2.length c147] 42, .ow (Kd.int .i64) 3 A144 c145 r141.1.Shape, .ow Kd.float 47 A146 c147 r200.2.2, .bx b35 [.slice none 0 0, .slice none 0 0] 42, .bx b28 [.slice A1_0 x1.Shape.length c1_0, .slice A1_1 x1.Data.length c1_1] 42, .bx b21 [.slice A0_0 x0.Shape.length c0_0, .slice A0_1 x0.Data.length c0_1] 42, .sl (Kd.int .i64) A0_0 c0_0 x0.Shape, .sl Kd.float A0_1 c0_1 x0.Data, .sl (Kd.int .i64) A1_0 c1_0 x1.Shape, .sl Kd.float A1_1 c1_1 x1.Data] w) ?_ ?_
              · refine wpLoop (matrix_Mul.l1 x1 x0 s185) r200 (fun (s199 : (Int × (List Nat) × (List Nat))) (a : Act) (w : World) => Fr 117 a [(2, .pointer (some ⟨b21, 0, none⟩)), (3, .pointer (some ⟨b28, 0, none⟩)), (4, .pointer (some ⟨b35, 0, none⟩)), (7, .int .i64 (rd x0.Shape 1)), (8, .int .i64 (rd x1.Shape 1)), (12, .pointer (some ⟨b155, 0, none⟩)), (14, .slice A172 s199.2.1.length c173), (15, .int .i64 s185.1), (69, .int .i64 (rd x0.Shape 0)), (70, .int .i64 s185.1), (73, .int .i64 (rd x1.Shape 1)), (74, .int .i64 s199.1)] ∧ Mem [] M w0 [.ow Kd.float 47 A172 c173 s199.2.1, .bx b155 [.slice A144 r141.1.Shape.length c145, .slice A146 s199.2.2.length c147] 42, .ow (Kd.int .i64) 3 A144 c145 r141.1.Shape, .ow Kd.float 47 A146 c147 s199.2.2, .bx b35 [.slice none 0 0, .slice none 0 0] 42, .bx b28 [.slice A1_0 x1.Shape.length c1_0, .slice A1_1 x1.Data.length c1_1] 42, .bx b21 [.slice A0_0 x0.Shape.length c0_0, .slice A0_1 x0.Data.length c0_1] 42, .sl (Kd.int .i64) A0_0 c0_0 x0.Shape, .sl Kd.float A0_1 c0_1 x0.Data, .sl (Kd.int .i64) A1_0 c1_0 x1.Shape, .sl Kd.float A1_1 c1_1 x1.Data] w) (0, s185.2.1, s185.2.2) hr200 ⟨hf198.sel (l := [2, 3, 4, 7, 8, 12, 14, 15, 69, 70, 73, 74]) (by kernel_rfl), hm191.sel [0, 1, 2, 3, 4, 5, 6, 7, 8, 9, 10] _ rfl (by kernel_rfl)⟩ ?_
                rintro g201 s199 a202 w203 H2 ⟨hf204, hm205⟩
                unfold matrix_Mul.l1 at H2
                refine wp_seq ?_
                rcases ifS_split H2 with ⟨c206, H2⟩ | ⟨c206, H2⟩
                · refine reg [.bool true] [2, 3, 4, 7, 8, 12, 14, 15, 69, 70, 73, 74, 75] [(2, .pointer (some ⟨b21, 0, none⟩)), (3, .pointer (some ⟨b28, 0, none⟩)), (4, .pointer (some ⟨b35, 0, none⟩)), (7, .int .i64 (rd x0.Shape 1)), (8, .int .i64 (rd x1.Shape 1)), (12, .pointer (some ⟨b155, 0, none⟩)), (14, .slice A172 s199.2.1.length c173), (15, .int .i64 s185.1), (69, .int .i64 (rd x0.Shape 0)), (70, .int .i64 s185.1), (73, .int .i64 (rd x1.Shape 1)), (74, .int .i64 s199.1), (75, .bool true)] [.is (decide (s199.1 < (rd x1.Shape 1)) = true)] hf204 (by kernel_rfl) ⟨(decide_eq_true c206), trivial⟩ fun a207 hf208 => ?_
                  refine thenN ?_
                  refine wp_seq ?_
                  refine condT hf208 (by kernel_rfl) ?_
                  refine wp_skip ?_
                  refine thenN ?_
                  refine wp_seq ?_
                  refine wp_block ?_
                  refine wp_seq ?_
                  refine reg [] [2, 3, 4, 7, 8, 12, 14, 15, 16, 69, 70, 73, 74] [(2, .pointer (some ⟨b21, 0, none⟩)), (3, .pointer (some ⟨b28, 0, none⟩)), (4, .pointer (some ⟨b35, 0, none⟩)), (7, .int .i64 (rd x0.Shape 1)), (8, .int .i64 (rd x1.Shape 1)), (12, .pointer (some ⟨b155, 0, none⟩)), (14, .slice A172 s199.2.1.length c173), (15, .int .i64 s185.1), (16, .int .i64 s199.1), (69, .int .i64 (rd x0.Shape 0)), (70, .int .i64 s185.1), (73, .int .i64 (rd x1.Shape 1)), (74, .int .i64 s199.1)] [] hf208 (by kernel_rfl) trivial fun a209 hf210 => ?_
                  refine thenN ?_
                  refine wp_seq ?_
                  refine wp_seq ?_
                  refine reg [] [2, 3, 4, 7, 8, 12, 14, 15, 16, 69, 70, 73, 74, 77, 78] [(2, .pointer (some ⟨b21, 0, none⟩)), (3, .pointer (some ⟨b28, 0, none⟩)), (4, .pointer (some ⟨b35, 0, none⟩)), (7, .int .i64 (rd x0.Shape 1)), (8, .int .i64 (rd x1.Shape 1)), (12, .pointer (some ⟨b155, 0, none⟩)), (14, .slice A172 s199.2.1.length c173), (15, .int .i64 s185.1), (16, .int .i64 s199.1), (69, .int .i64 (rd x0.Shape 0)), (70, .int .i64 s185.1), (73, .int .i64 (rd x1.Shape 1)), (74, .int .i64 s199.1), (77, .int .i64 (rd x0.Shape 1)), (78, .int .i64 0)] [] hf210 (by kernel_rfl) trivial fun a211 hf212 => ?_
                  refine thenN ?_
                  obtain ⟨r214, hr214, H2⟩ := obS_split H2
                  refine wpBlock (Mid := fun (a : Act) (w : World) => Fr 117 a [(2, .pointer (some ⟨b21, 0, none⟩)), (3, .pointer (some ⟨b28, 0, none⟩)), (4, .pointer (some ⟨b35, 0, none⟩)), (7, .int .i64 (rd x0.Shape 1)), (8, .int .i64 (rd x1.Shape 1)), (12, .pointer (some ⟨b155, 0, none⟩)), (14, .slice A172 r214.2.length c173), (15, .int .i64 s185.1), (16, .int .i64 s199.1), (69, .int .i64 (rd x0.Shape 0)), (70, .int .i64 s185.1), (73, .int .i64 (rd x1.Shape 1)), (74, .int .i64 s199.1), (77, .int .i64 (rd x0.Shape 1)), (78, .int .i64 r214.1)] ∧ Mem [] M w0 [.ow Kd.float 47 A172 c173 r214.2, .bx b155 [.slice A144 r141.1.Shape.length c145, .slice A146 s199.2.2.length c147] 42, .ow (Kd.int .i64) 3 A144 c145 r141.1.Shape, .ow Kd.float 47 A146 c147 s199.2.2, .bx b35 [.slice none 0 0, .slice none 0 0] 42, .bx b28 [.slice A1_0 x1.Shape.length c1_0, .slice A1_1 x1.Data.length c1_1] 42, .bx b21 [.slice A0_0 x0.Shape.length c0_0, .slice A0_1 x0.Data.length c0_1] 42, .sl (Kd.int .i64) A0_0 c0_0 x0.Shape, .sl Kd.float A0_1 c0_1 x0.Data, .sl (Kd.int .i64) A1_0 c1_0 x1.Shape, .sl Kd.float A1_1 c1_1 x1.Data] w) ?_ ?_
                  · refine wpLoop (matrix_Mul.l2 x0 s185 x1 s199) r214 (fun (s213 : (Int × (List Nat))) (a : Act) (w : World) => Fr 117 a [(2, .pointer (some ⟨b21, 0, none⟩)), (3, .pointer (some ⟨b28, 0, none⟩)), (4, .pointer (some ⟨b35, 0, none⟩)), (7, .int .i64 (rd x0.Shape 1)), (8, .int .i64 (rd x1.Shape 1)), (12, .pointer (some ⟨b155, 0, none⟩)), (14, .slice A172 s213.2.length c173), (15, .int .i64 s185.1), (16, .int .i64 s199.1), (69, .int .i64 (rd x0.Shape 0)), (70, .int .i64 s185.1), (73, .int .i64 (rd x1.Shape 1)), (74, .int .i64 s199.1), (77, .int .i64 (rd x0.Shape 1)), (78, .int .i64 s213.1)] ∧ Mem [] M w0 [.ow Kd.float 47 A172 c173 s213.2, .bx b155 [.slice A144 r141.1.Shape.length c145, .slice A146 s199.2.2.length c147] 42, .ow (Kd.int .i64) 3 A144 c145 r141.1.Shape, .ow Kd.float 47 A146 c147 s199.2.2, .bx b35 [.slice none 0 0, .slice none 0 0] 42, .bx b28 [.slice A1_0 x1.Shape.length c1_0, .slice A1_1 x1.Data.length c1_1] 42, .bx b21 [.slice A0_0 x0.Shape.length c0_0, .slice A0_1 x0.Data.length c0_1] 42, .sl (Kd.int .i64) A0_0 c0_0 x0.Shape, .sl Kd.float A0_1 c0_1 x0.Data, .sl (Kd.int .i64) A1_0 c1_0 x1.Shape, .sl Kd.float A1_1 c1_1 x1.Data] w) (0, s199.2.1) hr214 ⟨hf212.sel (l := [2, 3, 4, 7, 8, 12, 14, 15, 16, 69, 70, 73, 74, 77, 78]) (by kernel_rfl), hm205.sel [0, 1, 2, 3, 4, 5, 6, 7, 8, 9, 10] _ rfl (by kernel_rfl)⟩ ?_
                    rintro g215 s213 a216 w217 H3 ⟨hf218, hm219⟩
                    unfold matrix_Mul.l2 at H3
                    refine wp_seq ?_
                    rcases ifS_split H3 with ⟨c220, H3⟩ | ⟨c220, H3⟩
                    · refine reg [.bool true] [2, 3, 4, 7, 8, 12, 14, 15, 16, 69, 70, 73, 74, 77, 78, 79] [(2, .pointer (some ⟨b21, 0, none⟩)), (3, .pointer (some ⟨b28, 0, none⟩)), (4, .pointer (some ⟨b35, 0, none⟩)), (7, .int .i64 (rd x0.Shape 1)), (8, .int .i64 (rd x1.Shape 1)), (12, .pointer (some ⟨b155, 0, none⟩)), (14, .slice A172 s213.2.length c173), (15, .int .i64 s185.1), (16, .int .i64 s199.1), (69, .int .i64 (rd x0.Shape 0)), (70, .int .i64 s185.1), (73, .int .i64 (rd x1.Shape 1)), (74, .int .i64 s199.1), (77, .int .i64 (rd x0.Shape 1)), (78, .int .i64 s213.1), (79, .bool true)] [.is (decide (s213.1 < (rd x0.Shape 1)) = true)] hf218 (by kernel_rfl) ⟨(decide_eq_true c220), trivial⟩ fun a221 hf222 => ?_
                      refine thenN ?_
                      refine wp_seq ?_
                      refine condT hf222 (by kernel_rfl) ?_
                      refine wp_skip ?_
                      refine thenN ?_
                      refine wp_seq ?_
                      refine wp_block ?_
                      refine wp_seq ?_
                      refine reg [] [2, 3, 4, 7, 8, 12, 14, 15, 16, 17, 69, 70, 73, 74, 77, 78] [(2, .pointer (some ⟨b21, 0, none⟩)), (3, .pointer (some ⟨b28, 0, none⟩)), (4, .pointer (some ⟨b35, 0, none⟩)), (7, .int .i64 (rd x0.Shape 1)), (8, .int .i64 (rd x1.Shape 1)), (12, .pointer (some ⟨b155, 0, none⟩)), (14, .slice A172 s213.2.length c173), (15, .int .i64 s185.1), (16, .int .i64 s199.1), (17, .int .i64 s213.1), (69, .int .i64 (rd x0.Shape 0)), (70, .int .i64 s185.1), (73, .int .i64 (rd x1.Shape 1)), (74, .int .i64 s199.1), (77, .int .i64 (rd x0.Shape 1)), (78, .int .i64 s213.1)] [] hf222 (by kernel_rfl) trivial fun a223 hf224 => ?_
                      refine thenN ?_
                      obtain ⟨g225, H3⟩ := ifS_guard H3
                      obtain ⟨g226, H3⟩ := ifS_guard H3
                      obtain ⟨r227, hr227, H3⟩ := obS_split H3
                      obtain ⟨g228, H3⟩ := ifS_guard H3
                      refine midReg (fun (a : Act) (w : World) => Fr 117 a [(2, .pointer (some ⟨b21, 0, none⟩)), (3, .pointer (some ⟨b28, 0, none⟩)), (4, .pointer (some ⟨b35, 0, none⟩)), (7, .int .i64 (rd x0.Shape 1)), (8, .int .i64 (rd x1.Shape 1)), (12, .pointer (some ⟨b155, 0, none⟩)), (14, .slice A172 s213.2.length c173), (15, .int .i64 s185.1), (16, .int .i64 s199.1), (69, .int .i64 (rd x0.Shape 0)), (70, .int .i64 s185.1), (73, .int .i64 (rd x1.Shape 1)), (74, .int .i64 s199.1), (77, .int .i64 (rd x0.Shape 1)), (78, .int .i64 s213.1)] ∧ Mem [] M w0 [.ow Kd.float 47 A172 c173 (put s213.2 s213.1 r227), .bx b155 [.slice A144 r141.1.Shape.length c145, .slice A146 s199.2.2.length c147] 42, .ow (Kd.int .i64) 3 A144 c145 r141.1.Shape, .ow Kd.float 47 A146 c147 s199.2.2, .bx b35 [.slice none 0 0, .slice none 0 0] 42, .bx b28 [.slice A1_0 x1.Shape.length c1_0, .slice A1_1 x1.Data.length c1_1] 42, .bx b21 [.slice A0_0 x0.Shape.length c0_0, .slice A0_1 x0.Data.length c0_1] 42, .sl (Kd.int .i64) A0_0 c0_0 x0.Shape, .sl Kd.float A0_1 c0_1 x0.Data, .sl (Kd.int .i64) A1_0 c1_0 x1.Shape, .sl Kd.float A1_1 c1_1 x1.Data] w) ?_ ?_
                      · refine anyG [22] (by kernel_rfl) fun w245 hg246 => ?_
                        have hm247 : Mem [] M w0 [.ow Kd.float 47 A172 c173 s213.2, .bx b155 [.slice A144 r141.1.Shape.length c145, .slice A146 s199.2.2.length c147] 42, .ow (Kd.int .i64) 3 A144 c145 r141.1.Shape, .ow Kd.float 47 A146 c147 s199.2.2, .bx b35 [.slice none 0 0, .slice none 0 0] 42, .bx b28 [.slice A1_0 x1.Shape.length c1_0, .slice A1_1 x1.Data.length c1_1] 42, .bx b21 [.slice A0_0 x0.Shape.length c0_0, .slice A0_1 x0.Data.length c0_1] 42, .sl (Kd.int .i64) A0_0 c0_0 x0.Shape, .sl Kd.float A0_1 c0_1 x0.Data, .sl (Kd.int .i64) A1_0 c1_0 x1.Shape, .sl Kd.float A1_1 c1_1 x1.Data] w245 := hm219.still hg246
                        have q268 := (hm247.slAt 8 rfl).float (w64 ((w64 (s185.1 * (rd x0.Shape 1))) + s213.1)) g225.1 g225.2
                        obtain ⟨b269, hb269, kb269⟩ := q268.2
                        have q270 := (hm247.slAt 10 rfl).float (w64 ((w64 (s213.1 * (rd x1.Shape 1))) + s199.1)) g226.1 g226.2
                        obtain ⟨b271, hb271, kb271⟩ := q270.2
                        refine quiet0 [0, 1, 2, 3, 4, 5, 6, 7, 8, 9, 10, 11, 12, 13, 14, 15, 16, 17, 18, 19] [.slice A0_1 x0.Data.length c0_1, .float .f64 b269, .slice A1_1 x1.Data.length c1_1, .float .f64 b271] [2, 3, 4, 7, 8, 12, 14, 15, 16, 69, 70, 73, 74, 77, 78, 81, 82, 91, 100] #[true, true, true, true, true, true, true, true, true, true, true, true, true, true, true, true, true, true, true, true, false, false, false] [(2, .pointer (some ⟨b21, 0, none⟩)), (3, .pointer (some ⟨b28, 0, none⟩)), (4, .pointer (some ⟨b35, 0, none⟩)), (7, .int .i64 (rd x0.Shape 1)), (8, .int .i64 (rd x1.Shape 1)), (12, .pointer (some ⟨b155, 0, none⟩)), (14, .slice A172 s213.2.length c173), (15, .int .i64 s185.1), (16, .int .i64 s199.1), (69, .int .i64 (rd x0.Shape 0)), (70, .int .i64 s185.1), (73, .int .i64 (rd x1.Shape 1)), (74, .int .i64 s199.1), (77, .int .i64 (rd x0.Shape 1)), (78, .int .i64 s213.1), (81, .slice A172 s213.2.length c173), (82, .int .i64 s213.1), (91, .float .f64 b269), (100, .float .f64 b271)] [.cell ⟨b21, 1, none⟩ (.slice A0_1 x0.Data.length c0_1), .is (Option.isSome A0_1 = true), .is (0 ≤ (w64 ((w64 (s185.1 * (rd x0.Shape 1))) + s213.1)) ∧ (w64 ((w64 (s185.1 * (rd x0.Shape 1))) + s213.1)) < (x0.Data.length : Int)), .cell ((ad A0_1).add (((w64 ((w64 (s185.1 * (rd x0.Shape 1))) + s213.1))).toNat * 1)) (.float .f64 b269), .cell ⟨b28, 1, none⟩ (.slice A1_1 x1.Data.length c1_1), .is (Option.isSome A1_1 = true), .is (0 ≤ (w64 ((w64 (s213.1 * (rd x1.Shape 1))) + s199.1)) ∧ (w64 ((w64 (s213.1 * (rd x1.Shape 1))) + s199.1)) < (x1.Data.length : Int)), .cell ((ad A1_1).add (((w64 ((w64 (s213.1 * (rd x1.Shape 1))) + s199.1))).toNat * 1)) (.float .f64 b271)] 3 rfl (by kernel_rfl) (fun _ _ _ _ _ h => nomatch h.1) hf224 (by kernel_rfl) ⟨(hm247.cell 6 rfl rfl), q268.1, g225, kb269, (hm247.cell 5 rfl rfl), q270.1, g226, kb271, trivial⟩ fun a272 hf273 => ?_
                        refine all1 20 (by kernel_rfl) ?_
                        refine opOf hf273 rfl (by kernel_rfl) (aCall (fid := 55) (args := [.float .f64 b269, .float .f64 b271]) (d := 101) hf273 (by kernel_rfl) (by kernel_rfl) callable55 (real_Real_Times.calls _ _ (rd x0.Data (w64 ((w64 (s185.1 * (rd x0.Shape 1))) + s213.1))) b269 hb269 (rd x1.Data (w64 ((w64 (s213.1 * (rd x1.Shape 1))) + s199.1))) b271 hb271 (hm247.give [] [] rfl rfl) r227 hr227) ?_)
                        rintro _ w275 a276 ⟨b274, rfl, hb274, hk278⟩ hf277
                        refine ⟨.inr (Gr.still hk278.cum.none), ?_⟩
                        have hm279 : Mem [] M w0 [.ow Kd.float 47 A172 c173 s213.2, .bx b155 [.slice A144 r141.1.Shape.length c145, .slice A146 s199.2.2.length c147] 42, .ow (Kd.int .i64) 3 A144 c145 r141.1.Shape, .ow Kd.float 47 A146 c147 s199.2.2, .bx b35 [.slice none 0 0, .slice none 0 0] 42, .bx b28 [.slice A1_0 x1.Shape.length c1_0, .slice A1_1 x1.Data.length c1_1] 42, .bx b21 [.slice A0_0 x0.Shape.length c0_0, .slice A0_1 x0.Data.length c0_1] 42, .sl (Kd.int .i64) A0_0 c0_0 x0.Shape, .sl Kd.float A0_1 c0_1 x0.Data, .sl (Kd.int .i64) A1_0 c1_0 x1.Shape, .sl Kd.float A1_1 c1_1 x1.Data] w275 := hm247.still hk278.cum.none
                        have q280 := (hm279.owAt 0 rfl).float s213.1 g228.1 g228.2
                        obtain ⟨b281, hb281, kb281⟩ := q280.2
                        refine quiet0 [21] [] [2, 3, 4, 7, 8, 12, 14, 15, 16, 69, 70, 73, 74, 77, 78, 101, 102] #[true, true, true, true, true, true, true, true, true, true, true, true, true, true, true, true, true, true, true, true, true, true, false] [(2, .pointer (some ⟨b21, 0, none⟩)), (3, .pointer (some ⟨b28, 0, none⟩)), (4, .pointer (some ⟨b35, 0, none⟩)), (7, .int .i64 (rd x0.Shape 1)), (8, .int .i64 (rd x1.Shape 1)), (12, .pointer (some ⟨b155, 0, none⟩)), (14, .slice A172 s213.2.length c173), (15, .int .i64 s185.1), (16, .int .i64 s199.1), (69, .int .i64 (rd x0.Shape 0)), (70, .int .i64 s185.1), (73, .int .i64 (rd x1.Shape 1)), (74, .int .i64 s199.1), (77, .int .i64 (rd x0.Shape 1)), (78, .int .i64 s213.1), (101, .float .f64 b274), (102, .pointer (some ((ad A172).add ((s213.1).toNat * 1))))] [.is (Option.isSome A172 = true), .is (0 ≤ s213.1 ∧ s213.1 < (s213.2.length : Int))] 1 rfl (by kernel_rfl) (fun _ _ _ _ _ h => nomatch h.1) hf277 (by kernel_rfl) ⟨q280.1, g228, trivial⟩ fun a282 hf283 => ?_
                        refine all1 22 (by kernel_rfl) ?_
                        refine opOf hf283 rfl (by kernel_rfl) (aStoreO (kd := Kd.float) (base := 0) (E := 47) (A := A172) (c := c173) (xs := s213.2) (i := s213.1) (x := r227) (us := [.float .f64 b274]) (sz := 1) hf283 (by kernel_rfl) rfl (by kernel_rfl) (hm279.at 0 rfl) ⟨_, rfl, hb274⟩ g228.1 g228.2 ?_)
                        intro w284 hx285 hg286
                        refine ⟨.inl (by decide), ?_⟩
                        have hm287 : Mem [] M w0 [.ow Kd.float 47 A172 c173 (put s213.2 s213.1 r227), .bx b155 [.slice A144 r141.1.Shape.length c145, .slice A146 s199.2.2.length c147] 42, .ow (Kd.int .i64) 3 A144 c145 r141.1.Shape, .ow Kd.float 47 A146 c147 s199.2.2, .bx b35 [.slice none 0 0, .slice none 0 0] 42, .bx b28 [.slice A1_0 x1.Shape.length c1_0, .slice A1_1 x1.Data.length c1_1] 42, .bx b21 [.slice A0_0 x0.Shape.length c0_0, .slice A0_1 x0.Data.length c0_1] 42, .sl (Kd.int .i64) A0_0 c0_0 x0.Shape, .sl Kd.float A0_1 c0_1 x0.Data, .sl (Kd.int .i64) A1_0 c1_0 x1.Shape, .sl Kd.float A1_1 c1_1 x1.Data] w284 := hm279.setOwn 0 _ rfl rfl hx285 hg286 (.inl rfl)
                        refine allDone (by kernel_rfl) ⟨rfl, hf283.sel (l := [2, 3, 4, 7, 8, 12, 14, 15, 16, 69, 70, 73, 74, 77, 78]) (by kernel_rfl), hm287.sel [0, 1, 2, 3, 4, 5, 6, 7, 8, 9, 10] _ rfl (by kernel_rfl)⟩
                      rintro a288 w289 ⟨hf290, hm291⟩
                      refine blkN ?_
                      refine thenN ?_
                      refine reg [] [2, 3, 4, 7, 8, 12, 14, 15, 16, 69, 70, 73, 74, 77, 78] [(2, .pointer (some ⟨b21, 0, none⟩)), (3, .pointer (some ⟨b28, 0, none⟩)), (4, .pointer (some ⟨b35, 0, none⟩)), (7, .int .i64 (rd x0.Shape 1)), (8, .int .i64 (rd x1.Shape 1)), (12, .pointer (some ⟨b155, 0, none⟩)), (14, .slice A172 s213.2.length c173), (15, .int .i64 s185.1), (16, .int .i64 s199.1), (69, .int .i64 (rd x0.Shape 0)), (70, .int .i64 s185.1), (73, .int .i64 (rd x1.Shape 1)), (74, .int .i64 s199.1), (77, .int .i64 (rd x0.Shape 1)), (78, .int .i64 (w64 (s213.1 + 1)))] [] hf290 (by kernel_rfl) trivial fun a292 hf293 => ?_
                      have hf294 : Fr 117 a292 [(2, .pointer (some ⟨b21, 0, none⟩)), (3, .pointer (some ⟨b28, 0, none⟩)), (4, .pointer (some ⟨b35, 0, none⟩)), (7, .int .i64 (rd x0.Shape 1)), (8, .int .i64 (rd x1.Shape 1)), (12, .pointer (some ⟨b155, 0, none⟩)), (14, .slice A172 s213.2.length c173), (15, .int .i64 s185.1), (16, .int .i64 s199.1), (69, .int .i64 (rd x0.Shape 0)), (70, .int .i64 s185.1), (73, .int .i64 (rd x1.Shape 1)), (74, .int .i64 s199.1), (77, .int .i64 (rd x0.Shape 1)), (78, .int .i64 (w64 (s213.1 + 1)))] := hf293.sel (l := [2, 3, 4, 7, 8, 12, 14, 15, 16, 69, 70, 73, 74, 77, 78]) (by kernel_rfl)
                      have hm295 : Mem [] M w0 [.ow Kd.float 47 A172 c173 (put s213.2 s213.1 r227), .bx b155 [.slice A144 r141.1.Shape.length c145, .slice A146 s199.2.2.length c147] 42, .ow (Kd.int .i64) 3 A144 c145 r141.1.Shape, .ow Kd.float 47 A146 c147 s199.2.2, .bx b35 [.slice none 0 0, .slice none 0 0] 42, .bx b28 [.slice A1_0 x1.Shape.length c1_0, .slice A1_1 x1.Data.length c1_1] 42, .bx b21 [.slice A0_0 x0.Shape.length c0_0, .slice A0_1 x0.Data.length c0_1] 42, .sl (Kd.int .i64) A0_0 c0_0 x0.Shape, .sl Kd.float A0_1 c0_1 x0.Data, .sl (Kd.int .i64) A1_0 c1_0 x1.Shape, .sl Kd.float A1_1 c1_1 x1.Data] w289 := hm291.sel [0, 1, 2, 3, 4, 5, 6, 7, 8, 9, 10] _ rfl (by kernel_rfl)
                      exact ⟨((w64 (s213.1 + 1)), (put s213.2 s213.1 r227)), H3, (by simpa only [put_length, List.length_nil] using hf294), (by simpa only [put_length, List.length_nil] using hm295)⟩
                    · refine reg [.bool false] [2, 3, 4, 7, 8, 12, 14, 15, 16, 69, 70, 73, 74, 77, 78, 79] [(2, .pointer (some ⟨b21, 0, none⟩)), (3, .pointer (some ⟨b28, 0, none⟩)), (4, .pointer (some ⟨b35, 0, none⟩)), (7, .int .i64 (rd x0.Shape 1)), (8, .int .i64 (rd x1.Shape 1)), (12, .pointer (some ⟨b155, 0, none⟩)), (14, .slice A172 s213.2.length c173), (15, .int .i64 s185.1), (16, .int .i64 s199.1), (69, .int .i64 (rd x0.Shape 0)), (70, .int .i64 s185.1), (73, .int .i64 (rd x1.Shape 1)), (74, .int .i64 s199.1), (77, .int .i64 (rd x0.Shape 1)), (78, .int .i64 s213.1), (79, .bool false)] [.is (decide (s213.1 < (rd x0.Shape 1)) = false)] hf218 (by kernel_rfl) ⟨(decide_eq_false c220), trivial⟩ fun a296 hf297 => ?_
                      refine thenN ?_
                      refine wp_seq ?_
                      refine condF hf297 (by kernel_rfl) ?_
                      refine wp_exit ?_
                      refine thenE ?_
                      refine thenE ?_
                      obtain rfl := Option.some.inj H3
                      exact .inl ⟨rfl, hf297.sel (l := [2, 3, 4, 7, 8, 12, 14, 15, 16, 69, 70, 73, 74, 77, 78]) (by kernel_rfl), hm219.sel [0, 1, 2, 3, 4, 5, 6, 7, 8, 9, 10] _ rfl (by kernel_rfl)⟩
                  rintro a298 w299 ⟨hf300, hm301⟩
                  refine thenN ?_
                  obtain ⟨r302, hr302, H2⟩ := obS_split H2
                  obtain ⟨g303, H2⟩ := ifS_guard H2
                  refine midReg (fun (a : Act) (w : World) => Fr 117 a [(2, .pointer (some ⟨b21, 0, none⟩)), (3, .pointer (some ⟨b28, 0, none⟩)), (4, .pointer (some ⟨b35, 0, none⟩)), (7, .int .i64 (rd x0.Shape 1)), (8, .int .i64 (rd x1.Shape 1)), (12, .pointer (some ⟨b155, 0, none⟩)), (14, .slice A172 r214.2.length c173), (15, .int .i64 s185.1), (69, .int .i64 (rd x0.Shape 0)), (70, .int .i64 s185.1), (73, .int .i64 (rd x1.Shape 1)), (74, .int .i64 s199.1)] ∧ Mem [] M w0 [.ow Kd.float 47 A172 c173 r214.2, .bx b155 [.slice A144 r141.1.Shape.length c145, .slice A146 s199.2.2.length c147] 42, .ow (Kd.int .i64) 3 A144 c145 r141.1.Shape, .ow Kd.float 47 A146 c147 (put s199.2.2 (w64 ((w64 (s185.1 * (rd x1.Shape 1))) + s199.1)) r302), .bx b35 [.slice none 0 0, .slice none 0 0] 42, .bx b28 [.slice A1_0 x1.Shape.length c1_0, .slice A1_1 x1.Data.length c1_1] 42, .bx b21 [.slice A0_0 x0.Shape.length c0_0, .slice A0_1 x0.Data.length c0_1] 42, .sl (Kd.int .i64) A0_0 c0_0 x0.Shape, .sl Kd.float A0_1 c0_1 x0.Data, .sl (Kd.int .i64) A1_0 c1_0 x1.Shape, .sl Kd.float A1_1 c1_1 x1.Data] w) ?_ ?_
                  · refine anyG [10] (by kernel_rfl) fun w316 hg317 => ?_
                    have hm318 : Mem [] M w0 [.ow Kd.float 47 A172 c173 r214.2, .bx b155 [.slice A144 r141.1.Shape.length c145, .slice A146 s199.2.2.length c147] 42, .ow (Kd.int .i64) 3 A144 c145 r141.1.Shape, .ow Kd.float 47 A146 c147 s199.2.2, .bx b35 [.slice none 0 0, .slice none 0 0] 42, .bx b28 [.slice A1_0 x1.Shape.length c1_0, .slice A1_1 x1.Data.length c1_1] 42, .bx b21 [.slice A0_0 x0.Shape.length c0_0, .slice A0_1 x0.Data.length c0_1] 42, .sl (Kd.int .i64) A0_0 c0_0 x0.Shape, .sl Kd.float A0_1 c0_1 x0.Data, .sl (Kd.int .i64) A1_0 c1_0 x1.Shape, .sl Kd.float A1_1 c1_1 x1.Data] w316 := hm301.still hg317
                    refine quiet0 [0, 1, 2, 3, 4, 5, 6, 7] [.slice A146 s199.2.2.length c147] [2, 3, 4, 7, 8, 12, 14, 15, 69, 70, 73, 74, 105, 110, 111] #[true, true, true, true, true, true, true, true, false, false, false] [(2, .pointer (some ⟨b21, 0, none⟩)), (3, .pointer (some ⟨b28, 0, none⟩)), (4, .pointer (some ⟨b35, 0, none⟩)), (7, .int .i64 (rd x0.Shape 1)), (8, .int .i64 (rd x1.Shape 1)), (12, .pointer (some ⟨b155, 0, none⟩)), (14, .slice A172 r214.2.length c173), (15, .int .i64 s185.1), (69, .int .i64 (rd x0.Shape 0)), (70, .int .i64 s185.1), (73, .int .i64 (rd x1.Shape 1)), (74, .int .i64 s199.1), (105, .slice A146 s199.2.2.length c147), (110, .int .i64 (w64 ((w64 (s185.1 * (rd x1.Shape 1))) + s199.1))), (111, .slice A172 r214.2.length c173)] [.cell ⟨b155, 1, none⟩ (.slice A146 s199.2.2.length c147)] 3 rfl (by kernel_rfl) (fun _ _ _ _ _ h => nomatch h.1) hf300 (by kernel_rfl) ⟨(hm318.cell 1 rfl rfl), trivial⟩ fun a335 hf336 => ?_
                    refine all1 8 (by kernel_rfl) ?_
                    have hm337 : Mem [] M w0 [.sl Kd.float A172 c173 r214.2, .bx b155 [.slice A144 r141.1.Shape.length c145, .slice A146 s199.2.2.length c147] 42, .ow (Kd.int .i64) 3 A144 c145 r141.1.Shape, .ow Kd.float 47 A146 c147 s199.2.2, .bx b35 [.slice none 0 0, .slice none 0 0] 42, .bx b28 [.slice A1_0 x1.Shape.length c1_0, .slice A1_1 x1.Data.length c1_1] 42, .bx b21 [.slice A0_0 x0.Shape.length c0_0, .slice A0_1 x0.Data.length c0_1] 42, .sl (Kd.int .i64) A0_0 c0_0 x0.Shape, .sl Kd.float A0_1 c0_1 x0.Data, .sl (Kd.int .i64) A1_0 c1_0 x1.Shape, .sl Kd.float A1_1 c1_1 x1.Data] w316 := hm318.seal 0 _ rfl rfl
                    refine opOf hf336 rfl (by kernel_rfl) (aCall (fid := 56) (args := [.slice A172 r214.2.length c173]) (d := 112) hf336 (by kernel_rfl) (by kernel_rfl) callable56 (real_Row.calls _ _ r214.2 A172 r214.2.length c173 rfl (hm337.give [0] [.sl Kd.float A172 c173 r214.2] rfl rfl) r302 hr302) ?_)
                    rintro _ w339 a340 ⟨b338, rfl, hb338, hk342⟩ hf341
                    refine ⟨.inr (Gr.still hk342.cum.none), ?_⟩
                    have hm343 : Mem [] M w0 [.ow Kd.float 47 A172 c173 r214.2, .bx b155 [.slice A144 r141.1.Shape.length c145, .slice A146 s199.2.2.length c147] 42, .ow (Kd.int .i64) 3 A144 c145 r141.1.Shape, .ow Kd.float 47 A146 c147 s199.2.2, .bx b35 [.slice none 0 0, .slice none 0 0] 42, .bx b28 [.slice A1_0 x1.Shape.length c1_0, .slice A1_1 x1.Data.length c1_1] 42, .bx b21 [.slice A0_0 x0.Shape.length c0_0, .slice A0_1 x0.Data.length c0_1] 42, .sl (Kd.int .i64) A0_0 c0_0 x0.Shape, .sl Kd.float A0_1 c0_1 x0.Data, .sl (Kd.int .i64) A1_0 c1_0 x1.Shape, .sl Kd.float A1_1 c1_1 x1.Data] w339 := hm318.still hk342.cum.none
                    have q344 := (hm343.owAt 3 rfl).float (w64 ((w64 (s185.1 * (rd x1.Shape 1))) + s199.1)) g303.1 g303.2
                    obtain ⟨b345, hb345, kb345⟩ := q344.2
                    refine quiet0 [9] [] [2, 3, 4, 7, 8, 12, 14, 15, 69, 70, 73, 74, 112, 113] #[true, true, true, true, true, true, true, true, true, true, false] [(2, .pointer (some ⟨b21, 0, none⟩)), (3, .pointer (some ⟨b28, 0, none⟩)), (4, .pointer (some ⟨b35, 0, none⟩)), (7, .int .i64 (rd x0.Shape 1)), (8, .int .i64 (rd x1.Shape 1)), (12, .pointer (some ⟨b155, 0, none⟩)), (14, .slice A172 r214.2.length c173), (15, .int .i64 s185.1), (69, .int .i64 (rd x0.Shape 0)), (70, .int .i64 s185.1), (73, .int .i64 (rd x1.Shape 1)), (74, .int .i64 s199.1), (112, .float .f64 b338), (113, .pointer (some ((ad A146).add (((w64 ((w64 (s185.1 * (rd x1.Shape 1))) + s199.1))).toNat * 1))))] [.is (Option.isSome A146 = true), .is (0 ≤ (w64 ((w64 (s185.1 * (rd x1.Shape 1))) + s199.1)) ∧ (w64 ((w64 (s185.1 * (rd x1.Shape 1))) + s199.1)) < (s199.2.2.length : Int))] 1 rfl (by kernel_rfl) (fun _ _ _ _ _ h => nomatch h.1) hf341 (by kernel_rfl) ⟨q344.1, g303, trivial⟩ fun a346 hf347 => ?_
                    refine all1 10 (by kernel_rfl) ?_
                    refine opOf hf347 rfl (by kernel_rfl) (aStoreO (kd := Kd.float) (base := 0) (E := 47) (A := A146) (c := c147) (xs := s199.2.2) (i := (w64 ((w64 (s185.1 * (rd x1.Shape 1))) + s199.1))) (x := r302) (us := [.float .f64 b338]) (sz := 1) hf347 (by kernel_rfl) rfl (by kernel_rfl) (hm343.at 3 rfl) ⟨_, rfl, hb338⟩ g303.1 g303.2 ?_)
                    intro w348 hx349 hg350
                    refine ⟨.inl (by decide), ?_⟩
                    have hm351 : Mem [] M w0 [.ow Kd.float 47 A172 c173 r214.2, .bx b155 [.slice A144 r141.1.Shape.length c145, .slice A146 s199.2.2.length c147] 42, .ow (Kd.int .i64) 3 A144 c145 r141.1.Shape, .ow Kd.float 47 A146 c147 (put s199.2.2 (w64 ((w64 (s185.1 * (rd x1.Shape 1))) + s199.1)) r302), .bx b35 [.slice none 0 0, .slice none 0 0] 42, .bx b28 [.slice A1_0 x1.Shape.length c1_0, .slice A1_1 x1.Data.length c1_1] 42, .bx b21 [.slice A0_0 x0.Shape.length c0_0, .slice A0_1 x0.Data.length c0_1] 42, .sl (Kd.int .i64) A0_0 c0_0 x0.Shape, .sl Kd.float A0_1 c0_1 x0.Data, .sl (Kd.int .i64) A1_0 c1_0 x1.Shape, .sl Kd.float A1_1 c1_1 x1.Data] w348 := hm343.setOwn 3 _ rfl rfl hx349 hg350 (.inl rfl)
                    refine allDone (by kernel_rfl) ⟨rfl, hf347.sel (l := [2, 3, 4, 7, 8, 12, 14, 15, 69, 70, 73, 74]) (by kernel_rfl), hm351.sel [0, 1, 2, 3, 4, 5, 6, 7, 8, 9, 10] _ rfl (by kernel_rfl)⟩
                  rintro a352 w353 ⟨hf354, hm355⟩
                  refine blkN ?_
                  refine thenN ?_
                  refine reg [] [2, 3, 4, 7, 8, 12, 14, 15, 69, 70, 73, 74] [(2, .pointer (some ⟨b21, 0, none⟩)), (3, .pointer (some ⟨b28, 0, none⟩)), (4, .pointer (some ⟨b35, 0, none⟩)), (7, .int .i64 (rd x0.Shape 1)), (8, .int .i64 (rd x1.Shape 1)), (12, .pointer (some ⟨b155, 0, none⟩)), (14, .slice A172 r214.2.length c173), (15, .int .i64 s185.1), (69, .int .i64 (rd x0.Shape 0)), (70, .int .i64 s185.1), (73, .int .i64 (rd x1.Shape 1)), (74, .int .i64 (w64 (s199.1 + 1)))] [] hf354 (by kernel_rfl) trivial fun a356 hf357 => ?_
                  have hf358 : Fr 117 a356 [(2, .pointer (some ⟨b21, 0, none⟩)), (3, .pointer (some ⟨b28, 0, none⟩)), (4, .pointer (some ⟨b35, 0, none⟩)), (7, .int .i64 (rd x0.Shape 1)), (8, .int .i64 (rd x1.Shape 1)), (12, .pointer (some ⟨b155, 0, none⟩)), (14, .slice A172 r214.2.length c173), (15, .int .i64 s185.1), (69, .int .i64 (rd x0.Shape 0)), (70, .int .i64 s185.1), (73, .int .i64 (rd x1.Shape 1)), (74, .int .i64 (w64 (s199.1 + 1)))] := hf357.sel (l := [2, 3, 4, 7, 8, 12, 14, 15, 69, 70, 73, 74]) (by kernel_rfl)
                  have hm359 : Mem [] M w0 [.ow Kd.float 47 A172 c173 r214.2, .bx b155 [.slice A144 r141.1.Shape.length c145, .slice A146 s199.2.2.length c147] 42, .ow (Kd.int .i64) 3 A144 c145 r141.1.Shape, .ow Kd.float 47 A146 c147 (put s199.2.2 (w64 ((w64 (s185.1 * (rd x1.Shape 1))) + s199.1)) r302), .bx b35 [.slice none 0 0, .slice none 0 0] 42, .bx b28 [.slice A1_0 x1.Shape.length c1_0, .slice A1_1 x1.Data.length c1_1] 42, .bx b21 [.slice A0_0 x0.Shape.length c0_0, .slice A0_1 x0.Data.length c0_1] 42, .sl (Kd.int .i64) A0_0 c0_0 x0.Shape, .sl Kd.float A0_1 c0_1 x0.Data, .sl (Kd.int .i64) A1_0 c1_0 x1.Shape, .sl Kd.float A1_1 c1_1 x1.Data] w353 := hm355.sel [0, 1, 2, 3, 4, 5, 6, 7, 8, 9, 10] _ rfl (by kernel_rfl)
                  exact ⟨((w64 (s199.1 + 1)), r214.2, (put s199.2.2 (w64 ((w64 (s185.1 * (rd x1.Shape 1))) + s199.1)) r302)), H2, (by simpa only [put_length, List.length_nil] using hf358), (by simpa only [put_length, List.length_nil] using hm359)⟩
                · refine reg [.bool false] [2, 3, 4, 7, 8, 12, 14, 15, 69, 70, 73, 74, 75] [(2, .pointer (some ⟨b21, 0, none⟩)), (3, .pointer (some ⟨b28, 0, none⟩)), (4, .pointer (some ⟨b35, 0, none⟩)), (7, .int .i64 (rd x0.Shape 1)), (8, .int .i64 (rd x1.Shape 1)), (12, .pointer (some ⟨b155, 0, none⟩)), (14, .slice A172 s199.2.1.length c173), (15, .int .i64 s185.1), (69, .int .i64 (rd x0.Shape 0)), (70, .int .i64 s185.1), (73, .int .i64 (rd x1.Shape 1)), (74, .int .i64 s199.1), (75, .bool false)] [.is (decide (s199.1 < (rd x1.Shape 1)) = false)] hf204 (by kernel_rfl) ⟨(decide_eq_false c206), trivial⟩ fun a360 hf361 => ?_
                  refine thenN ?_
                  refine wp_seq ?_
                  refine condF hf361 (by kernel_rfl) ?_
                  refine wp_exit ?_
                  refine thenE ?_
                  refine thenE ?_
                  obtain rfl := Option.some.inj H2
                  exact .inl ⟨rfl, hf361.sel (l := [2, 3, 4, 7, 8, 12, 14, 15, 69, 70, 73, 74]) (by kernel_rfl), hm205.sel [0, 1, 2, 3, 4, 5, 6, 7, 8, 9, 10] _ rfl (by kernel_rfl)⟩
              rintro a362 w363 ⟨hf364, hm365⟩
              refine blkN ?_
              refine thenN ?_
              refine reg [] [2, 3, 4, 7, 8, 12, 14, 69, 70] [(2, .pointer (some ⟨b21, 0, none⟩)), (3, .pointer (some ⟨b28, 0, none⟩)), (4, .pointer (some ⟨b35, 0, none⟩)), (7, .int .i64 (rd x0.Shape 1)), (8, .int .i64 (rd x1.Shape 1)), (12, .pointer (some ⟨b155, 0, none⟩)), (14, .slice A172 r200.2.1.length c173), (69, .int .i64 (rd x0.Shape 0)), (70, .int .i64 (w64 (s185.1 + 1)))] [] hf364 (by kernel_rfl) trivial fun a366 hf367 => ?_
              exact ⟨((w64 (s185.1 + 1)), r200.2.1, r200.2.2), H1, hf367.sel (l := [2, 3, 4, 7, 8, 12, 14, 69, 70]) (by kernel_rfl), hm365.sel [0, 1, 2, 3, 4, 5, 6, 7, 8, 9, 10] _ rfl (by kernel_rfl)⟩
            · refine reg [.bool false] [2, 3, 4, 7, 8, 12, 14, 69, 70, 71] [(2, .pointer (some ⟨b21, 0, none⟩)), (3, .pointer (some ⟨b28, 0, none⟩)), (4, .pointer (some ⟨b35, 0, none⟩)), (7, .int .i64 (rd x0.Shape 1)), (8, .int .i64 (rd x1.Shape 1)), (12, .pointer (some ⟨b155, 0, none⟩)), (14, .slice A172 s185.2.1.length c173), (69, .int .i64 (rd x0.Shape 0)), (70, .int .i64 s185.1), (71, .bool false)] [.is (decide (s185.1 < (rd x0.Shape 0)) = false)] hf190 (by kernel_rfl) ⟨(decide_eq_false c192), trivial⟩ fun a368 hf369 => ?_
              refine thenN ?_
              refine wp_seq ?_
              refine condF hf369 (by kernel_rfl) ?_
              refine wp_exit ?_
              refine thenE ?_
              refine thenE ?_
              obtain rfl := Option.some.inj H1
              exact .inl ⟨rfl, hf369.sel (l := [2, 3, 4, 7, 8, 12, 14, 69, 70]) (by kernel_rfl), hm191.sel [0, 1, 2, 3, 4, 5, 6, 7, 8, 9, 10] _ rfl (by kernel_rfl)⟩
          rintro a370 w371 ⟨hf372, hm373⟩
          refine thenN ?_
          refine wp_seq ?_
          refine inReg ?_
          refine go 1 [.agg #[.slice A144 r141.1.Shape.length c145, .slice A146 r186.2.2.length c147]] [4, 116] [(4, .pointer (some ⟨b35, 0, none⟩)), (116, .agg #[.slice A144 r141.1.Shape.length c145, .slice A146 r186.2.2.length c147])] [.cell ⟨b155, 0, none⟩ (.slice A144 r141.1.Shape.length c145), .cell ⟨b155, 1, none⟩ (.slice A146 r186.2.2.length c147)] hf372 (by kernel_rfl) ⟨(hm373.cell 1 rfl rfl), (hm373.cell 1 rfl rfl), trivial⟩ fun a374 hf375 => ?_
          refine listOf hf375 rfl (by kernel_rfl) (aStoreB (b := b35) (j := 0) (T := 42) (cs := [.slice none 0 0, .slice none 0 0]) (us := [.slice A144 r141.1.Shape.length c145, .slice A146 r186.2.2.length c147]) (cs' := [.slice A144 r141.1.Shape.length c145, .slice A146 r186.2.2.length c147]) hf375 (by kernel_rfl) (hm373.bxAt 4 rfl) (by kernel_rfl) (by kernel_rfl) (by kernel_rfl) ?_)
          intro w376 hx377 hg378
          have hm379 : Mem [] M w0 [.ow Kd.float 47 A172 c173 r186.2.1, .bx b155 [.slice A144 r141.1.Shape.length c145, .slice A146 r186.2.2.length c147] 42, .ow (Kd.int .i64) 3 A144 c145 r141.1.Shape, .ow Kd.float 47 A146 c147 r186.2.2, .bx b35 [.slice A144 r141.1.Shape.length c145, .slice A146 r186.2.2.length c147] 42, .bx b28 [.slice A1_0 x1.Shape.length c1_0, .slice A1_1 x1.Data.length c1_1] 42, .bx b21 [.slice A0_0 x0.Shape.length c0_0, .slice A0_1 x0.Data.length c0_1] 42, .sl (Kd.int .i64) A0_0 c0_0 x0.Shape, .sl Kd.float A0_1 c0_1 x0.Data, .sl (Kd.int .i64) A1_0 c1_0 x1.Shape, .sl Kd.float A1_1 c1_1 x1.Data] w376 := hm373.setBox 4 _ rfl rfl hx377 hg378
          refine go 1 [] [4, 5] [(4, .pointer (some ⟨b35, 0, none⟩)), (5, .int .i64 0)] [] hf375 (by kernel_rfl) trivial fun a380 hf381 => ?_
          refine endL rfl ?_
          have hm382 : Mem [] M w0 [.ow (Kd.int .i64) 3 A144 c145 r141.1.Shape, .ow Kd.float 47 A146 c147 r186.2.2, .bx b35 [.slice A144 r141.1.Shape.length c145, .slice A146 r186.2.2.length c147] 42] w376 := hm379.sel [2, 3, 4] _ rfl (by kernel_rfl)
          refine thenN ?_
          refine wp_ret ?_
          have hm383 : Mem [] M w0 [.ow (Kd.int .i64) 3 A144 c145 r141.1.Shape, .ow Kd.float 47 A146 c147 r186.2.2] w376 := hm382.sel [0, 1] _ rfl (by kernel_rfl)
          obtain rfl := Option.some.inj H0
          refine ret [.agg #[.slice A144 r141.1.Shape.length c145, .slice A146 r186.2.2.length c147]] [.agg #[.slice A144 r141.1.Shape.length c145, .slice A146 r186.2.2.length c147], .int .i64 0] [.cell ⟨b35, 0, none⟩ (.slice A144 r141.1.Shape.length c145), .cell ⟨b35, 1, none⟩ (.slice A146 r186.2.2.length c147)] hf381 (by kernel_rfl) ⟨(hm382.cell 2 rfl rfl), (hm382.cell 2 rfl rfl), trivial⟩ ?_
          exact ⟨_, rfl, A144, c145, A146, c147, rfl, hm383⟩
        · refine reg [.bool true] [2, 3, 4, 6, 7, 8, 9, 11, 59] [(2, .pointer (some ⟨b21, 0, none⟩)), (3, .pointer (some ⟨b28, 0, none⟩)), (4, .pointer (some ⟨b35, 0, none⟩)), (6, .int .i64 (rd x0.Shape 0)), (7, .int .i64 (rd x0.Shape 1)), (8, .int .i64 (rd x1.Shape 1)), (9, .slice (some ⟨b119, 0, none⟩) 2 2), (11, .int .i64 r128.2), (59, .bool true)] [.is (((r128.2 : Int) != 0) = true)] hf137 (by kernel_rfl) ⟨(neT c138), trivial⟩ fun a385 hf386 => ?_
          refine thenN ?_
          refine condT hf386 (by kernel_rfl) ?_
          refine wp_seq ?_
          refine inReg ?_
          refine go 2 [] [4, 60, 61] [(4, .pointer (some ⟨b35, 0, none⟩)), (60, .agg #[.slice none 0 0, .slice none 0 0]), (61, .int .i64 r128.2)] [] hf386 (by kernel_rfl) trivial fun a387 hf388 => ?_
          refine listOf hf388 rfl (by kernel_rfl) (aStoreB (b := b35) (j := 0) (T := 42) (cs := [.slice none 0 0, .slice none 0 0]) (us := [.slice none 0 0, .slice none 0 0]) (cs' := [.slice none 0 0, .slice none 0 0]) hf388 (by kernel_rfl) (hm135.bxAt 1 rfl) (by kernel_rfl) (by kernel_rfl) (by kernel_rfl) ?_)
          intro w389 hx390 hg391
          have hm392 : Mem [] M w0 [.sl (Kd.int .i64) (some ⟨b119, 0, none⟩) 2 ([(rd x0.Shape 0), (rd x1.Shape 1)] : List Int), .bx b35 [.slice none 0 0, .slice none 0 0] 42, .bx b28 [.slice A1_0 x1.Shape.length c1_0, .slice A1_1 x1.Data.length c1_1] 42, .bx b21 [.slice A0_0 x0.Shape.length c0_0, .slice A0_1 x0.Data.length c0_1] 42, .sl (Kd.int .i64) A0_0 c0_0 x0.Shape, .sl Kd.float A0_1 c0_1 x0.Data, .sl (Kd.int .i64) A1_0 c1_0 x1.Shape, .sl Kd.float A1_1 c1_1 x1.Data] w389 := hm135.setBox 1 _ rfl rfl hx390 hg391
          refine go 1 [] [4, 5] [(4, .pointer (some ⟨b35, 0, none⟩)), (5, .int .i64 r128.2)] [] hf388 (by kernel_rfl) trivial fun a393 hf394 => ?_
          refine endL rfl ?_
          have hm395 : Mem [] M w0 [.bx b35 [.slice none 0 0, .slice none 0 0] 42] w389 := hm392.sel [1] _ rfl (by kernel_rfl)
          refine thenN ?_
          refine wp_ret ?_
          refine thenR ?_
          have hm396 : Mem [] M w0 [.ow (Kd.int .i64) 3 none 0 ([] : (List Int)), .bx b35 [.slice none 0 0, .slice none 0 0] 42] w389 := hm395.nilOw (Kd.int .i64) 3
          have hm397 : Mem [] M w0 [.ow Kd.float 47 none 0 ([] : (List Nat)), .ow (Kd.int .i64) 3 none 0 ([] : (List Int)), .bx b35 [.slice none 0 0, .slice none 0 0] 42] w389 := hm396.nilOw Kd.float 47
          have hm398 : Mem [] M w0 [.ow (Kd.int .i64) 3 none 0 ([] : (List Int)), .ow Kd.float 47 none 0 ([] : (List Nat))] w389 := hm397.sel [1, 0] _ rfl (by kernel_rfl)
          obtain rfl := Option.some.inj H0
          refine ret [.agg #[.slice none 0 0, .slice none 0 0]] [.agg #[.slice none 0 0, .slice none 0 0], .int .i64 r128.2] [.cell ⟨b35, 0, none⟩ (.slice none 0 0), .cell ⟨b35, 1, none⟩ (.slice none 0 0)] hf394 (by kernel_rfl) ⟨(hm395.cell 0 rfl rfl), (hm395.cell 0 rfl rfl), trivial⟩ ?_
          exact ⟨_, rfl, none, 0, none, 0, rfl, hm398⟩
      · refine midReg (fun (a : Act) (w : World) => Fr 117 a [(2, .pointer (some ⟨b21, 0, none⟩)), (3, .pointer (some ⟨b28, 0, none⟩)), (4, .pointer (some ⟨b35, 0, none⟩)), (36, .bool true)] ∧ Mem [] M w0 [.bx b35 [.slice none 0 0, .slice none 0 0] 42, .bx b28 [.slice A1_0 x1.Shape.length c1_0, .slice A1_1 x1.Data.length c1_1] 42, .bx b21 [.slice A0_0 x0.Shape.length c0_0, .slice A0_1 x0.Data.length c0_1] 42, .sl (Kd.int .i64) A0_0 c0_0 x0.Shape, .sl Kd.float A0_1 c0_1 x0.Data, .sl (Kd.int .i64) A1_0 c1_0 x1.Shape, .sl Kd.float A1_1 c1_1 x1.Data] w) ?_ ?_
        · refine anyG [] (by kernel_rfl) fun w412 hg413 => ?_
          have hm414 : Mem [] M w0 [.bx b35 [.slice none 0 0, .slice none 0 0] 42, .bx b28 [.slice A1_0 x1.Shape.length c1_0, .slice A1_1 x1.Data.length c1_1] 42, .bx b21 [.slice A0_0 x0.Shape.length c0_0, .slice A0_1 x0.Data.length c0_1] 42, .sl (Kd.int .i64) A0_0 c0_0 x0.Shape, .sl Kd.float A0_1 c0_1 x0.Data, .sl (Kd.int .i64) A1_0 c1_0 x1.Shape, .sl Kd.float A1_1 c1_1 x1.Data] w412 := hm41.still hg413
          refine quiet0 [0] [.agg #[.slice A0_0 x0.Shape.length c0_0, .slice A0_1 x0.Data.length c0_1]] [2, 3, 4, 18] #[true, false, false, false, false, false, false, false, false, false, false, false, false, false, false, false, false, false, false] [(2, .pointer (some ⟨b21, 0, none⟩)), (3, .pointer (some ⟨b28, 0, none⟩)), (4, .pointer (some ⟨b35, 0, none⟩)), (18, .agg #[.slice A0_0 x0.Shape.length c0_0, .slice A0_1 x0.Data.length c0_1])] [.cell ⟨b21, 0, none⟩ (.slice A0_0 x0.Shape.length c0_0), .cell ⟨b21, 1, none⟩ (.slice A0_1 x0.Data.length c0_1)] 18 rfl (by kernel_rfl) (fun _ _ _ _ _ h => nomatch h.1) hf43 (by kernel_rfl) ⟨(hm414.cell 2 rfl rfl), (hm414.cell 2 rfl rfl), trivial⟩ fun a433 hf434 => ?_
          refine all1 1 (by kernel_rfl) ?_
          refine opOf hf434 rfl (by kernel_rfl) (aCall (fid := 53) (args := [.agg #[.slice A0_0 x0.Shape.length c0_0, .slice A0_1 x0.Data.length c0_1]]) (d := 19) hf434 (by kernel_rfl) (by kernel_rfl) callable53 (matrix_flat.calls _ _ x0 A0_0 x0.Shape.length c0_0 rfl A0_1 x0.Data.length c0_1 rfl (hm414.give [3, 4] [.sl (Kd.int .i64) A0_0 c0_0 x0.Shape, .sl Kd.float A0_1 c0_1 x0.Data] rfl rfl) r44 hr44) ?_)
          rintro _ w435 a436 ⟨rfl, hk438⟩ hf437
          refine ⟨.inr (Gr.still hk438.cum.none), ?_⟩
          have hm439 : Mem [] M w0 [.bx b35 [.slice none 0 0, .slice none 0 0] 42, .bx b28 [.slice A1_0 x1.Shape.length c1_0, .slice A1_1 x1.Data.length c1_1] 42, .bx b21 [.slice A0_0 x0.Shape.length c0_0, .slice A0_1 x0.Data.length c0_1] 42, .sl (Kd.int .i64) A0_0 c0_0 x0.Shape, .sl Kd.float A0_1 c0_1 x0.Data, .sl (Kd.int .i64) A1_0 c1_0 x1.Shape, .sl Kd.float A1_1 c1_1 x1.Data] w435 := hm414.still hk438.cum.none
          rw [c45] at hf437
          refine quiet0 [2, 3, 4] [.agg #[.slice A1_0 x1.Shape.length c1_0, .slice A1_1 x1.Data.length c1_1]] [2, 3, 4, 21, 22] #[true, true, true, true, true, false, false, false, false, false, false, false, false, false, false, false, false, false, false] [(2, .pointer (some ⟨b21, 0, none⟩)), (3, .pointer (some ⟨b28, 0, none⟩)), (4, .pointer (some ⟨b35, 0, none⟩)), (21, .bool false), (22, .agg #[.slice A1_0 x1.Shape.length c1_0, .slice A1_1 x1.Data.length c1_1])] [.cell ⟨b28, 0, none⟩ (.slice A1_0 x1.Shape.length c1_0), .cell ⟨b28, 1, none⟩ (.slice A1_1 x1.Data.length c1_1)] 14 rfl (by kernel_rfl) (fun _ _ _ _ _ h => nomatch h.1) hf437 (by kernel_rfl) ⟨(hm439.cell 1 rfl rfl), (hm439.cell 1 rfl rfl), trivial⟩ fun a440 hf441 => ?_
          refine all1 5 (by kernel_rfl) ?_
          refine opOf hf441 rfl (by kernel_rfl) (aCall (fid := 53) (args := [.agg #[.slice A1_0 x1.Shape.length c1_0, .slice A1_1 x1.Data.length c1_1]]) (d := 23) hf441 (by kernel_rfl) (by kernel_rfl) callable53 (matrix_flat.calls _ _ x1 A1_0 x1.Shape.length c1_0 rfl A1_1 x1.Data.length c1_1 rfl (hm439.give [5, 6] [.sl (Kd.int .i64) A1_0 c1_0 x1.Shape, .sl Kd.float A1_1 c1_1 x1.Data] rfl rfl) r46 hr46) ?_)
          rintro _ w442 a443 ⟨rfl, hk445⟩ hf444
          refine ⟨.inr (Gr.still hk445.cum.none), ?_⟩
          have hm446 : Mem [] M w0 [.bx b35 [.slice none 0 0, .slice none 0 0] 42, .bx b28 [.slice A1_0 x1.Shape.length c1_0, .slice A1_1 x1.Data.length c1_1] 42, .bx b21 [.slice A0_0 x0.Shape.length c0_0, .slice A0_1 x0.Data.length c0_1] 42, .sl (Kd.int .i64) A0_0 c0_0 x0.Shape, .sl Kd.float A0_1 c0_1 x0.Data, .sl (Kd.int .i64) A1_0 c1_0 x1.Shape, .sl Kd.float A1_1 c1_1 x1.Data] w442 := hm439.still hk445.cum.none
          rw [c47] at hf444
          have q447 := (hm446.slAt 3 rfl).int 1 g48.1 g48.2
          have q448 := (hm446.slAt 5 rfl).int 0 g49.1 g49.2
          refine quiet0 [6, 7, 8, 9, 10, 11, 12, 13, 14, 15, 16, 17, 18] [.slice A0_0 x0.Shape.length c0_0, .int .i64 (rd x0.Shape 1), .slice A1_0 x1.Shape.length c1_0, .int .i64 (rd x1.Shape 0), .bool true] [2, 3, 4, 36] #[true, true, true, true, true, true, true, true, true, true, true, true, true, true, true, true, true, true, true] [(2, .pointer (some ⟨b21, 0, none⟩)), (3, .pointer (some ⟨b28, 0, none⟩)), (4, .pointer (some ⟨b35, 0, none⟩)), (36, .bool true)] [.cell ⟨b21, 0, none⟩ (.slice A0_0 x0.Shape.length c0_0), .is (Option.isSome A0_0 = true), .is ((0 : Int) ≤ 1 ∧ 1 < (x0.Shape.length : Int)), .cell ((ad A0_0).add ((1 : Int).toNat * 1)) (.int .i64 (rd x0.Shape 1)), .cell ⟨b28, 0, none⟩ (.slice A1_0 x1.Shape.length c1_0), .is (Option.isSome A1_0 = true), .is ((0 : Int) ≤ 0 ∧ 0 < (x1.Shape.length : Int)), .cell ((ad A1_0).add ((0 : Int).toNat * 1)) (.int .i64 (rd x1.Shape 0)), .is ((((rd x0.Shape 1) : Int) != (rd x1.Shape 0)) = true)] 0 rfl (by kernel_rfl) (fun _ _ _ _ _ h => nomatch h.1) hf444 (by kernel_rfl) ⟨(hm446.cell 2 rfl rfl), q447.1, g48, q447.2, (hm446.cell 1 rfl rfl), q448.1, g49, q448.2, (neT c50), trivial⟩ fun a449 hf450 => ?_
          refine allDone (by kernel_rfl) ⟨rfl, hf450.sel (l := [2, 3, 4, 36]) (by kernel_rfl), hm446.sel [0, 1, 2, 3, 4, 5, 6] _ rfl (by kernel_rfl)⟩
        rintro a451 w452 ⟨hf453, hm454⟩
        refine thenN ?_
        refine condT hf453 (by kernel_rfl) ?_
        refine wp_seq ?_
        refine inReg ?_
        refine go 1 [] [4, 37] [(4, .pointer (some ⟨b35, 0, none⟩)), (37, .agg #[.slice none 0 0, .slice none 0 0])] [] hf453 (by kernel_rfl) trivial fun a455 hf456 => ?_
        refine listOf hf456 rfl (by kernel_rfl) (aStoreB (b := b35) (j := 0) (T := 42) (cs := [.slice none 0 0, .slice none 0 0]) (us := [.slice none 0 0, .slice none 0 0]) (cs' := [.slice none 0 0, .slice none 0 0]) hf456 (by kernel_rfl) (hm454.bxAt 0 rfl) (by kernel_rfl) (by kernel_rfl) (by kernel_rfl) ?_)
        intro w457 hx458 hg459
        have hm460 : Mem [] M w0 [.bx b35 [.slice none 0 0, .slice none 0 0] 42, .bx b28 [.slice A1_0 x1.Shape.length c1_0, .slice A1_1 x1.Data.length c1_1] 42, .bx b21 [.slice A0_0 x0.Shape.length c0_0, .slice A0_1 x0.Data.length c0_1] 42, .sl (Kd.int .i64) A0_0 c0_0 x0.Shape, .sl Kd.float A0_1 c0_1 x0.Data, .sl (Kd.int .i64) A1_0 c1_0 x1.Shape, .sl Kd.float A1_1 c1_1 x1.Data] w457 := hm454.setBox 0 _ rfl rfl hx458 hg459
        refine go 1 [] [4, 5] [(4, .pointer (some ⟨b35, 0, none⟩)), (5, .int .i64 2)] [] hf456 (by kernel_rfl) trivial fun a461 hf462 => ?_
        refine endL rfl ?_
        have hm463 : Mem [] M w0 [.bx b35 [.slice none 0 0, .slice none 0 0] 42] w457 := hm460.sel [0] _ rfl (by kernel_rfl)
        refine thenN ?_
        refine wp_ret ?_
        refine thenR ?_
        have hm464 : Mem [] M w0 [.ow (Kd.int .i64) 3 none 0 ([] : (List Int)), .bx b35 [.slice none 0 0, .slice none 0 0] 42] w457 := hm463.nilOw (Kd.int .i64) 3
        have hm465 : Mem [] M w0 [.ow Kd.float 47 none 0 ([] : (List Nat)), .ow (Kd.int .i64) 3 none 0 ([] : (List Int)), .bx b35 [.slice none 0 0, .slice none 0 0] 42] w457 := hm464.nilOw Kd.float 47
        have hm466 : Mem [] M w0 [.ow (Kd.int .i64) 3 none 0 ([] : (List Int)), .ow Kd.float 47 none 0 ([] : (List Nat))] w457 := hm465.sel [1, 0] _ rfl (by kernel_rfl)
        obtain rfl := Option.some.inj H0
        refine ret [.agg #[.slice none 0 0, .slice none 0 0]] [.agg #[.slice none 0 0, .slice none 0 0], .int .i64 2] [.cell ⟨b35, 0, none⟩ (.slice none 0 0), .cell ⟨b35, 1, none⟩ (.slice none 0 0)] hf462 (by kernel_rfl) ⟨(hm463.cell 0 rfl rfl), (hm463.cell 0 rfl rfl), trivial⟩ ?_
        exact ⟨_, rfl, none, 0, none, 0, rfl, hm466⟩
    · refine midReg (fun (a : Act) (w : World) => Fr 117 a [(2, .pointer (some ⟨b21, 0, none⟩)), (3, .pointer (some ⟨b28, 0, none⟩)), (4, .pointer (some ⟨b35, 0, none⟩)), (36, .bool true)] ∧ Mem [] M w0 [.bx b35 [.slice none 0 0, .slice none 0 0] 42, .bx b28 [.slice A1_0 x1.Shape.length c1_0, .slice A1_1 x1.Data.length c1_1] 42, .bx b21 [.slice A0_0 x0.Shape.length c0_0, .slice A0_1 x0.Data.length c0_1] 42, .sl (Kd.int .i64) A0_0 c0_0 x0.Shape, .sl Kd.float A0_1 c0_1 x0.Data, .sl (Kd.int .i64) A1_0 c1_0 x1.Shape, .sl Kd.float A1_1 c1_1 x1.Data] w) ?_ ?_
      · refine anyG [] (by kernel_rfl) fun w478 hg479 => ?_
        have hm480 : Mem [] M w0 [.bx b35 [.slice none 0 0, .slice none 0 0] 42, .bx b28 [.slice A1_0 x1.Shape.length c1_0, .slice A1_1 x1.Data.length c1_1] 42, .bx b21 [.slice A0_0 x0.Shape.length c0_0, .slice A0_1 x0.Data.length c0_1] 42, .sl (Kd.int .i64) A0_0 c0_0 x0.Shape, .sl Kd.float A0_1 c0_1 x0.Data, .sl (Kd.int .i64) A1_0 c1_0 x1.Shape, .sl Kd.float A1_1 c1_1 x1.Data] w478 := hm41.still hg479
        refine quiet0 [0] [.agg #[.slice A0_0 x0.Shape.length c0_0, .slice A0_1 x0.Data.length c0_1]] [2, 3, 4, 18] #[true, false, false, false, false, false, false, false, false, false, false, false, false, false, false, false, false, false, false] [(2, .pointer (some ⟨b21, 0, none⟩)), (3, .pointer (some ⟨b28, 0, none⟩)), (4, .pointer (some ⟨b35, 0, none⟩)), (18, .agg #[.slice A0_0 x0.Shape.length c0_0, .slice A0_1 x0.Data.length c0_1])] [.cell ⟨b21, 0, none⟩ (.slice A0_0 x0.Shape.length c0_0), .cell ⟨b21, 1, none⟩ (.slice A0_1 x0.Data.length c0_1)] 18 rfl (by kernel_rfl) (fun _ _ _ _ _ h => nomatch h.1) hf43 (by kernel_rfl) ⟨(hm480.cell 2 rfl rfl), (hm480.cell 2 rfl rfl), trivial⟩ fun a497 hf498 => ?_
        refine all1 1 (by kernel_rfl) ?_
        refine opOf hf498 rfl (by kernel_rfl) (aCall (fid := 53) (args := [.agg #[.slice A0_0 x0.Shape.length c0_0, .slice A0_1 x0.Data.length c0_1]]) (d := 19) hf498 (by kernel_rfl) (by kernel_rfl) callable53 (matrix_flat.calls _ _ x0 A0_0 x0.Shape.length c0_0 rfl A0_1 x0.Data.length c0_1 rfl (hm480.give [3, 4] [.sl (Kd.int .i64) A0_0 c0_0 x0.Shape, .sl Kd.float A0_1 c0_1 x0.Data] rfl rfl) r44 hr44) ?_)
        rintro _ w499 a500 ⟨rfl, hk502⟩ hf501
        refine ⟨.inr (Gr.still hk502.cum.none), ?_⟩
        have hm503 : Mem [] M w0 [.bx b35 [.slice none 0 0, .slice none 0 0] 42, .bx b28 [.slice A1_0 x1.Shape.length c1_0, .slice A1_1 x1.Data.length c1_1] 42, .bx b21 [.slice A0_0 x0.Shape.length c0_0, .slice A0_1 x0.Data.length c0_1] 42, .sl (Kd.int .i64) A0_0 c0_0 x0.Shape, .sl Kd.float A0_1 c0_1 x0.Data, .sl (Kd.int .i64) A1_0 c1_0 x1.Shape, .sl Kd.float A1_1 c1_1 x1.Data] w499 := hm480.still hk502.cum.none
        rw [c45] at hf501
        refine quiet0 [2, 3, 4] [.agg #[.slice A1_0 x1.Shape.length c1_0, .slice A1_1 x1.Data.length c1_1]] [2, 3, 4, 21, 22] #[true, true, true, true, true, false, false, false, false, false, false, false, false, false, false, false, false, false, false] [(2, .pointer (some ⟨b21, 0, none⟩)), (3, .pointer (some ⟨b28, 0, none⟩)), (4, .pointer (some ⟨b35, 0, none⟩)), (21, .bool false), (22, .agg #[.slice A1_0 x1.Shape.length c1_0, .slice A1_1 x1.Data.length c1_1])] [.cell ⟨b28, 0, none⟩ (.slice A1_0 x1.Shape.length c1_0), .cell ⟨b28, 1, none⟩ (.slice A1_1 x1.Data.length c1_1)] 14 rfl (by kernel_rfl) (fun _ _ _ _ _ h => nomatch h.1) hf501 (by kernel_rfl) ⟨(hm503.cell 1 rfl rfl), (hm503.cell 1 rfl rfl), trivial⟩ fun a504 hf505 => ?_
        refine all1 5 (by kernel_rfl) ?_
        refine opOf hf505 rfl (by kernel_rfl) (aCall (fid := 53) (args := [.agg #[.slice A1_0 x1.Shape.length c1_0, .slice A1_1 x1.Data.length c1_1]]) (d := 23) hf505 (by kernel_rfl) (by kernel_rfl) callable53 (matrix_flat.calls _ _ x1 A1_0 x1.Shape.length c1_0 rfl A1_1 x1.Data.length c1_1 rfl (hm503.give [5, 6] [.sl (Kd.int .i64) A1_0 c1_0 x1.Shape, .sl Kd.float A1_1 c1_1 x1.Data] rfl rfl) r46 hr46) ?_)
        rintro _ w506 a507 ⟨rfl, hk509⟩ hf508
        refine ⟨.inr (Gr.still hk509.cum.none), ?_⟩
        have hm510 : Mem [] M w0 [.bx b35 [.slice none 0 0, .slice none 0 0] 42, .bx b28 [.slice A1_0 x1.Shape.length c1_0, .slice A1_1 x1.Data.length c1_1] 42, .bx b21 [.slice A0_0 x0.Shape.length c0_0, .slice A0_1 x0.Data.length c0_1] 42, .sl (Kd.int .i64) A0_0 c0_0 x0.Shape, .sl Kd.float A0_1 c0_1 x0.Data, .sl (Kd.int .i64) A1_0 c1_0 x1.Shape, .sl Kd.float A1_1 c1_1 x1.Data] w506 := hm503.still hk509.cum.none
        rw [c47] at hf508
        refine quiet0 [6, 7, 8, 9, 10, 11, 12, 13, 14, 15, 16, 17, 18] [] [2, 3, 4, 36] #[true, true, true, true, true, true, true, true, true, true, true, true, true, true, true, true, true, true, true] [(2, .pointer (some ⟨b21, 0, none⟩)), (3, .pointer (some ⟨b28, 0, none⟩)), (4, .pointer (some ⟨b35, 0, none⟩)), (36, .bool true)] [] 0 rfl (by kernel_rfl) (fun _ _ _ _ _ h => nomatch h.1) hf508 (by kernel_rfl) trivial fun a511 hf512 => ?_
        refine allDone (by kernel_rfl) ⟨rfl, hf512.sel (l := [2, 3, 4, 36]) (by kernel_rfl), hm510.sel [0, 1, 2, 3, 4, 5, 6] _ rfl (by kernel_rfl)⟩
      rintro a513 w514 ⟨hf515, hm516⟩
      refine thenN ?_
      refine condT hf515 (by kernel_rfl) ?_
      refine wp_seq ?_
      refine inReg ?_
      refine go 1 [] [4, 37] [(4, .pointer (some ⟨b35, 0, none⟩)), (37, .agg #[.slice none 0 0, .slice none 0 0])] [] hf515 (by kernel_rfl) trivial fun a517 hf518 => ?_
      refine listOf hf518 rfl (by kernel_rfl) (aStoreB (b := b35) (j := 0) (T := 42) (cs := [.slice none 0 0, .slice none 0 0]) (us := [.slice none 0 0, .slice none 0 0]) (cs' := [.slice none 0 0, .slice none 0 0]) hf518 (by kernel_rfl) (hm516.bxAt 0 rfl) (by kernel_rfl) (by kernel_rfl) (by kernel_rfl) ?_)
      intro w519 hx520 hg521
      have hm522 : Mem [] M w0 [.bx b35 [.slice none 0 0, .slice none 0 0] 42, .bx b28 [.slice A1_0 x1.Shape.length c1_0, .slice A1_1 x1.Data.length c1_1] 42, .bx b21 [.slice A0_0 x0.Shape.length c0_0, .slice A0_1 x0.Data.length c0_1] 42, .sl (Kd.int .i64) A0_0 c0_0 x0.Shape, .sl Kd.float A0_1 c0_1 x0.Data, .sl (Kd.int .i64) A1_0 c1_0 x1.Shape, .sl Kd.float A1_1 c1_1 x1.Data] w519 := hm516.setBox 0 _ rfl rfl hx520 hg521
      refine go 1 [] [4, 5] [(4, .pointer (some ⟨b35, 0, none⟩)), (5, .int .i64 2)] [] hf518 (by kernel_rfl) trivial fun a523 hf524 => ?_
      refine endL rfl ?_
      have hm525 : Mem [] M w0 [.bx b35 [.slice none 0 0, .slice none 0 0] 42] w519 := hm522.sel [0] _ rfl (by kernel_rfl)
      refine thenN ?_
      refine wp_ret ?_
      refine thenR ?_
      have hm526 : Mem [] M w0 [.ow (Kd.int .i64) 3 none 0 ([] : (List Int)), .bx b35 [.slice none 0 0, .slice none 0 0] 42] w519 := hm525.nilOw (Kd.int .i64) 3
      have hm527 : Mem [] M w0 [.ow Kd.float 47 none 0 ([] : (List Nat)), .ow (Kd.int .i64) 3 none 0 ([] : (List Int)), .bx b35 [.slice none 0 0, .slice none 0 0] 42] w519 := hm526.nilOw Kd.float 47
      have hm528 : Mem [] M w0 [.ow (Kd.int .i64) 3 none 0 ([] : (List Int)), .ow Kd.float 47 none 0 ([] : (List Nat))] w519 := hm527.sel [1, 0] _ rfl (by kernel_rfl)
      obtain rfl := Option.some.inj H0
      refine ret [.agg #[.slice none 0 0, .slice none 0 0]] [.agg #[.slice none 0 0, .slice none 0 0], .int .i64 2] [.cell ⟨b35, 0, none⟩ (.slice none 0 0), .cell ⟨b35, 1, none⟩ (.slice none 0 0)] hf524 (by kernel_rfl) ⟨(hm525.cell 0 rfl rfl), (hm525.cell 0 rfl rfl), trivial⟩ ?_
      exact ⟨_, rfl, none, 0, none, 0, rfl, hm528⟩
  · refine midReg (fun (a : Act) (w : World) => Fr 117 a [(2, .pointer (some ⟨b21, 0, none⟩)), (3, .pointer (some ⟨b28, 0, none⟩)), (4, .pointer (some ⟨b35, 0, none⟩)), (36, .bool true)] ∧ Mem [] M w0 [.bx b35 [.slice none 0 0, .slice none 0 0] 42, .bx b28 [.slice A1_0 x1.Shape.length c1_0, .slice A1_1 x1.Data.length c1_1] 42, .bx b21 [.slice A0_0 x0.Shape.length c0_0, .slice A0_1 x0.Data.length c0_1] 42, .sl (Kd.int .i64) A0_0 c0_0 x0.Shape, .sl Kd.float A0_1 c0_1 x0.Data, .sl (Kd.int .i64) A1_0 c1_0 x1.Shape, .sl Kd.float A1_1 c1_1 x1.Data] w) ?_ ?_
    · refine anyG [] (by kernel_rfl) fun w535 hg536 => ?_
      have hm537 : Mem [] M w0 [.bx b35 [.slice none 0 0, .slice none 0 0] 42, .bx b28 [.slice A1_0 x1.Shape.length c1_0, .slice A1_1 x1.Data.length c1_1] 42, .bx b21 [.slice A0_0 x0.Shape.length c0_0, .slice A0_1 x0.Data.length c0_1] 42, .sl (Kd.int .i64) A0_0 c0_0 x0.Shape, .sl Kd.float A0_1 c0_1 x0.Data, .sl (Kd.int .i64) A1_0 c1_0 x1.Shape, .sl Kd.float A1_1 c1_1 x1.Data] w535 := hm41.still hg536
      refine quiet0 [0] [.agg #[.slice A0_0 x0.Shape.length c0_0, .slice A0_1 x0.Data.length c0_1]] [2, 3, 4, 18] #[true, false, false, false, false, false, false, false, false, false, false, false, false, false, false, false, false, false, false] [(2, .pointer (some ⟨b21, 0, none⟩)), (3, .pointer (some ⟨b28, 0, none⟩)), (4, .pointer (some ⟨b35, 0, none⟩)), (18, .agg #[.slice A0_0 x0.Shape.length c0_0, .slice A0_1 x0.Data.length c0_1])] [.cell ⟨b21, 0, none⟩ (.slice A0_0 x0.Shape.length c0_0), .cell ⟨b21, 1, none⟩ (.slice A0_1 x0.Data.length c0_1)] 18 rfl (by kernel_rfl) (fun _ _ _ _ _ h => nomatch h.1) hf43 (by kernel_rfl) ⟨(hm537.cell 2 rfl rfl), (hm537.cell 2 rfl rfl), trivial⟩ fun a547 hf548 => ?_
      refine all1 1 (by kernel_rfl) ?_
      refine opOf hf548 rfl (by kernel_rfl) (aCall (fid := 53) (args := [.agg #[.slice A0_0 x0.Shape.length c0_0, .slice A0_1 x0.Data.length c0_1]]) (d := 19) hf548 (by kernel_rfl) (by kernel_rfl) callable53 (matrix_flat.calls _ _ x0 A0_0 x0.Shape.length c0_0 rfl A0_1 x0.Data.length c0_1 rfl (hm537.give [3, 4] [.sl (Kd.int .i64) A0_0 c0_0 x0.Shape, .sl Kd.float A0_1 c0_1 x0.Data] rfl rfl) r44 hr44) ?_)
      rintro _ w549 a550 ⟨rfl, hk552⟩ hf551
      refine ⟨.inr (Gr.still hk552.cum.none), ?_⟩
      have hm553 : Mem [] M w0 [.bx b35 [.slice none 0 0, .slice none 0 0] 42, .bx b28 [.slice A1_0 x1.Shape.length c1_0, .slice A1_1 x1.Data.length c1_1] 42, .bx b21 [.slice A0_0 x0.Shape.length c0_0, .slice A0_1 x0.Data.length c0_1] 42, .sl (Kd.int .i64) A0_0 c0_0 x0.Shape, .sl Kd.float A0_1 c0_1 x0.Data, .sl (Kd.int .i64) A1_0 c1_0 x1.Shape, .sl Kd.float A1_1 c1_1 x1.Data] w549 := hm537.still hk552.cum.none
      rw [c45] at hf551
      refine quiet0 [2, 3, 4, 5, 6, 7, 8, 9, 10, 11, 12, 13, 14, 15, 16, 17, 18] [] [2, 3, 4, 36] #[true, true, true, true, true, true, true, true, true, true, true, true, true, true, true, true, true, true, true] [(2, .pointer (some ⟨b21, 0, none⟩)), (3, .pointer (some ⟨b28, 0, none⟩)), (4, .pointer (some ⟨b35, 0, none⟩)), (36, .bool true)] [] 0 rfl (by kernel_rfl) (fun _ _ _ _ _ h => nomatch h.1) hf551 (by kernel_rfl) trivial fun a554 hf555 => ?_
      refine allDone (by kernel_rfl) ⟨rfl, hf555.sel (l := [2, 3, 4, 36]) (by kernel_rfl), hm553.sel [0, 1, 2, 3, 4, 5, 6] _ rfl (by kernel_rfl)⟩
    rintro a556 w557 ⟨hf558, hm559⟩
    refine thenN ?_
    refine condT hf558 (by kernel_rfl) ?_
    refine wp_seq ?_
    refine inReg ?_
    refine go 1 [] [4, 37] [(4, .pointer (some ⟨b35, 0, none⟩)), (37, .agg #[.slice none 0 0, .slice none 0 0])] [] hf558 (by kernel_rfl) trivial fun a560 hf561 => ?_
    refine listOf hf561 rfl (by kernel_rfl) (aStoreB (b := b35) (j := 0) (T := 42) (cs := [.slice none 0 0, .slice none 0 0]) (us := [.slice none 0 0, .slice none 0 0]) (cs' := [.slice none 0 0, .slice none 0 0]) hf561 (by kernel_rfl) (hm559.bxAt 0 rfl) (by kernel_rfl) (by kernel_rfl) (by kernel_rfl) ?_)
    intro w562 hx563 hg564
    have hm565 : Mem [] M w0 [.bx b35 [.slice none 0 0, .slice none 0 0] 42, .bx b28 [.slice A1_0 x1.Shape.length c1_0, .slice A1_1 x1.Data.length c1_1] 42, .bx b21 [.slice A0_0 x0.Shape.length c0_0, .slice A0_1 x0.Data.length c0_1] 42, .sl (Kd.int .i64) A0_0 c0_0 x0.Shape, .sl Kd.float A0_1 c0_1 x0.Data, .sl (Kd.int .i64) A1_0 c1_0 x1.Shape, .sl Kd.float A1_1 c1_1 x1.Data] w562 := hm559.setBox 0 _ rfl rfl hx563 hg564
    refine go 1 [] [4, 5] [(4, .pointer (some ⟨b35, 0, none⟩)), (5, .int .i64 2)] [] hf561 (by kernel_rfl) trivial fun a566 hf567 => ?_
    refine endL rfl ?_
    have hm568 : Mem [] M w0 [.bx b35 [.slice none 0 0, .slice none 0 0] 42] w562 := hm565.sel [0] _ rfl (by kernel_rfl)
    refine thenN ?_
    refine wp_ret ?_
    refine thenR ?_
    have hm569 : Mem [] M w0 [.ow (Kd.int .i64) 3 none 0 ([] : (List Int)), .bx b35 [.slice none 0 0, .slice none 0 0] 42] w562 := hm568.nilOw (Kd.int .i64) 3
    have hm570 : Mem [] M w0 [.ow Kd.float 47 none 0 ([] : (List Nat)), .ow (Kd.int .i64) 3 none 0 ([] : (List Int)), .bx b35 [.slice none 0 0, .slice none 0 0] 42] w562 := hm569.nilOw Kd.float 47
    have hm571 : Mem [] M w0 [.ow (Kd.int .i64) 3 none 0 ([] : (List Int)), .ow Kd.float 47 none 0 ([] : (List Nat))] w562 := hm570.sel [1, 0] _ rfl (by kernel_rfl)
    obtain rfl := Option.some.inj H0
    refine ret [.agg #[.slice none 0 0, .slice none 0 0]] [.agg #[.slice none 0 0, .slice none 0 0], .int .i64 2] [.cell ⟨b35, 0, none⟩ (.slice none 0 0), .cell ⟨b35, 1, none⟩ (.slice none 0 0)] hf567 (by kernel_rfl) ⟨(hm568.cell 0 rfl rfl), (hm568.cell 0 rfl rfl), trivial⟩ ?_
    exact ⟨_, rfl, none, 0, none, 0, rfl, hm571⟩

/-! ### backstitch/backstitchlaw5.awake -/
noncomputable def law5_awake.f  : Option Bool :=
  (matrix_Mul.f (⟨([1, 2] : List Int), ([4607182418800017408, 4611686018427387904] : List Nat)⟩ : Tensor) (⟨([2, 1] : List Int), ([4613937818241073152, 4616189618054758400] : List Nat)⟩ : Tensor)).bind fun r23 =>
  if r23.2 = 0 then (if (r23.1.Data.length : Int) = 1 then (if (0 : Int) ≤ 0 ∧ 0 < (r23.1.Data.length : Int) then (if (feq (rd r23.1.Data 0) 4622382067542392832) = true then (some true)
  else (some false))
  else none)
  else (some false))
  else (some false)
set_option maxRecDepth 100000 in
set_option maxHeartbeats 4000000 in
theorem law5_awake.calls (M : List (Option Nat)) (w0 : World)  (hm0 : Mem [] M w0 [] w0) (r : Bool) (H0 : law5_awake.f = some r) :
    Calls Try.prog 32 [].toArray w0 (fun x w' => ∃ v, x = .returned v ∧ v = .bool r ∧ Mem [] M w0 [] w') := by
  unfold law5_awake.f at H0
  refine enter (n := 28) Try.func32 rfl rfl (by kernel_rfl) fun a0 (hf0 : Fr 28 a0 []) => ?_
  refine wp_seq ?_
  refine reg [] [] [] [] hf0 (by kernel_rfl) trivial fun a21 hf22 => ?_
  refine thenN ?_
  refine wp_seq ?_
  obtain ⟨r23, hr23, H0⟩ := ob_split H0
  refine inReg ?_
  refine listOf hf22 rfl (by kernel_rfl) (aLit (cs := [.int .i64 1, .int .i64 2]) (E := 3) (len := 2) (d := 4) hf22 (by kernel_rfl) (by kernel_rfl) ?_)
  intro b24 w25 a26 hbb24 hx28 hg29 hf27
  have hm0s := hm0.still hg29
  have hm30 : Mem [] M w0 [.sl (Kd.int .i64) (some ⟨b24, 0, none⟩) 2 ([1, 2] : List Int)] w25 := Mem.lit (kd := (Kd.int .i64)) (xs := ([1, 2] : List Int)) hm0 hbb24 hx28 hg29 (Els.append (Els.one (kd := (Kd.int .i64)) (us := [.int .i64 1]) (x := 1) rfl) (Els.one (kd := (Kd.int .i64)) (us := [.int .i64 2]) (x := 2) rfl))
  refine listOf hf27 rfl (by kernel_rfl) (aLit (cs := [.float .f64 4607182418800017408, .float .f64 4611686018427387904]) (E := 47) (len := 2) (d := 5) hf27 (by kernel_rfl) (by kernel_rfl) ?_)
  intro b31 w32 a33 hbb31 hx35 hg36 hf34
  have hm30s := hm30.still hg36
  have hm37 : Mem [] M w0 [.sl Kd.float (some ⟨b31, 0, none⟩) 2 ([4607182418800017408, 4611686018427387904] : List Nat), .sl (Kd.int .i64) (some ⟨b24, 0, none⟩) 2 ([1, 2] : List Int)] w32 := Mem.lit (kd := Kd.float) (xs := ([4607182418800017408, 4611686018427387904] : List Nat)) hm30 hbb31 hx35 hg36 (Els.append (Els.one (kd := Kd.float) (us := [.float .f64 4607182418800017408]) (x := 4607182418800017408) ⟨_, rfl, (FR.lit (by kernel_rfl) (by kernel_rfl))⟩) (Els.one (kd := Kd.float) (us := [.float .f64 4611686018427387904]) (x := 4611686018427387904) ⟨_, rfl, (FR.lit (by kernel_rfl) (by kernel_rfl))⟩))
  refine go 1 [] [6] [(6, .agg #[.slice (some ⟨b24, 0, none⟩) 2 2, .slice (some ⟨b31, 0, none⟩) 2 2])] [] hf34 (by kernel_rfl) trivial fun a38 hf39 => ?_
  refine listOf hf39 rfl (by kernel_rfl) (aLit (cs := [.int .i64 2, .int .i64 1]) (E := 3) (len := 2) (d := 7) hf39 (by kernel_rfl) (by kernel_rfl) ?_)
  intro b40 w41 a42 hbb40 hx44 hg45 hf43
  have hm37s := hm37.still hg45
  have hm46 : Mem [] M w0 [.sl (Kd.int .i64) (some ⟨b40, 0, none⟩) 2 ([2, 1] : List Int), .sl Kd.float (some ⟨b31, 0, none⟩) 2 ([4607182418800017408, 4611686018427387904] : List Nat), .sl (Kd.int .i64) (some ⟨b24, 0, none⟩) 2 ([1, 2] : List Int)] w41 := Mem.lit (kd := (Kd.int .i64)) (xs := ([2, 1] : List Int)) hm37 hbb40 hx44 hg45 (Els.append (Els.one (kd := (Kd.int .i64)) (us := [.int .i64 2]) (x := 2) rfl) (Els.one (kd := (Kd.int .i64)) (us := [.int .i64 1]) (x := 1) rfl))
  refine listOf hf43 rfl (by kernel_rfl) (aLit (cs := [.float .f64 4613937818241073152, .float .f64 4616189618054758400]) (E := 47) (len := 2) (d := 8) hf43 (by kernel_rfl) (by kernel_rfl) ?_)
  intro b47 w48 a49 hbb47 hx51 hg52 hf50
  have hm46s := hm46.still hg52
  have hm53 : Mem [] M w0 [.sl Kd.float (some ⟨b47, 0, none⟩) 2 ([4613937818241073152, 4616189618054758400] : List Nat), .sl (Kd.int .i64) (some ⟨b40, 0, none⟩) 2 ([2, 1] : List Int), .sl Kd.float (some ⟨b31, 0, none⟩) 2 ([4607182418800017408, 4611686018427387904] : List Nat), .sl (Kd.int .i64) (some ⟨b24, 0, none⟩) 2 ([1, 2] : List Int)] w48 := Mem.lit (kd := Kd.float) (xs := ([4613937818241073152, 4616189618054758400] : List Nat)) hm46 hbb47 hx51 hg52 (Els.append (Els.one (kd := Kd.float) (us := [.float .f64 4613937818241073152]) (x := 4613937818241073152) ⟨_, rfl, (FR.lit (by kernel_rfl) (by kernel_rfl))⟩) (Els.one (kd := Kd.float) (us := [.float .f64 4616189618054758400]) (x := 4616189618054758400) ⟨_, rfl, (FR.lit (by kernel_rfl) (by kernel_rfl))⟩))
  refine go 1 [] [6, 9] [(6, .agg #[.slice (some ⟨b24, 0, none⟩) 2 2, .slice (some ⟨b31, 0, none⟩) 2 2]), (9, .agg #[.slice (some ⟨b40, 0, none⟩) 2 2, .slice (some ⟨b47, 0, none⟩) 2 2])] [] hf50 (by kernel_rfl) trivial fun a54 hf55 => ?_
  refine listOf hf55 rfl (by kernel_rfl) (aCall (fid := 34) (args := [.agg #[.slice (some ⟨b24, 0, none⟩) 2 2, .slice (some ⟨b31, 0, none⟩) 2 2], .agg #[.slice (some ⟨b40, 0, none⟩) 2 2, .slice (some ⟨b47, 0, none⟩) 2 2]]) (d := 10) hf55 (by kernel_rfl) (by kernel_rfl) callable34 (matrix_Mul.calls _ _ (⟨([1, 2] : List Int), ([4607182418800017408, 4611686018427387904] : List Nat)⟩ : Tensor) (some ⟨b24, 0, none⟩) 2 2 rfl (some ⟨b31, 0, none⟩) 2 2 rfl (⟨([2, 1] : List Int), ([4613937818241073152, 4616189618054758400] : List Nat)⟩ : Tensor) (some ⟨b40, 0, none⟩) 2 2 rfl (some ⟨b47, 0, none⟩) 2 2 rfl (hm53.give [3, 2, 1, 0] [.sl (Kd.int .i64) (some ⟨b24, 0, none⟩) 2 ([1, 2] : List Int), .sl Kd.float (some ⟨b31, 0, none⟩) 2 ([4607182418800017408, 4611686018427387904] : List Nat), .sl (Kd.int .i64) (some ⟨b40, 0, none⟩) 2 ([2, 1] : List Int), .sl Kd.float (some ⟨b47, 0, none⟩) 2 ([4613937818241073152, 4616189618054758400] : List Nat)] rfl rfl) r23 hr23) ?_)
  rintro _ w60 a61 ⟨A56, c57, A58, c59, rfl, hk63⟩ hf62
  have hm65 : Mem [] M w0 [.ow (Kd.int .i64) 3 A56 c57 r23.1.Shape, .ow Kd.float 47 A58 c59 r23.1.Data, .sl Kd.float (some ⟨b47, 0, none⟩) 2 ([4613937818241073152, 4616189618054758400] : List Nat), .sl (Kd.int .i64) (some ⟨b40, 0, none⟩) 2 ([2, 1] : List Int), .sl Kd.float (some ⟨b31, 0, none⟩) 2 ([4607182418800017408, 4611686018427387904] : List Nat), .sl (Kd.int .i64) (some ⟨b24, 0, none⟩) 2 ([1, 2] : List Int)] w60 := hm53.back hk63
  have hm66 : Mem [] M w0 [.sl (Kd.int .i64) A56 c57 r23.1.Shape, .ow Kd.float 47 A58 c59 r23.1.Data, .sl Kd.float (some ⟨b47, 0, none⟩) 2 ([4613937818241073152, 4616189618054758400] : List Nat), .sl (Kd.int .i64) (some ⟨b40, 0, none⟩) 2 ([2, 1] : List Int), .sl Kd.float (some ⟨b31, 0, none⟩) 2 ([4607182418800017408, 4611686018427387904] : List Nat), .sl (Kd.int .i64) (some ⟨b24, 0, none⟩) 2 ([1, 2] : List Int)] w60 := hm65.seal 0 _ rfl rfl
  have hm67 : Mem [] M w0 [.sl (Kd.int .i64) A56 c57 r23.1.Shape, .sl Kd.float A58 c59 r23.1.Data, .sl Kd.float (some ⟨b47, 0, none⟩) 2 ([4613937818241073152, 4616189618054758400] : List Nat), .sl (Kd.int .i64) (some ⟨b40, 0, none⟩) 2 ([2, 1] : List Int), .sl Kd.float (some ⟨b31, 0, none⟩) 2 ([4607182418800017408, 4611686018427387904] : List Nat), .sl (Kd.int .i64) (some ⟨b24, 0, none⟩) 2 ([1, 2] : List Int)] w60 := hm66.seal 1 _ rfl rfl
  refine go 3 [] [11, 12] [(11, .agg #[.slice A56 r23.1.Shape.length c57, .slice A58 r23.1.Data.length c59]), (12, .int .i64 r23.2)] [] hf62 (by kernel_rfl) trivial fun a68 hf69 => ?_
  refine listOf hf69 rfl (by kernel_rfl) (aNew (cs := [.slice none 0 0, .slice none 0 0]) (T := 42) (d := 1) hf69 (by kernel_rfl) (by kernel_rfl) ?_)
  intro b70 w71 a72 hbb70 hx74 hg75 hf73
  have hm76 : Mem [] M w0 [.bx b70 [.slice none 0 0, .slice none 0 0] 42, .sl (Kd.int .i64) A56 c57 r23.1.Shape, .sl Kd.float A58 c59 r23.1.Data, .sl Kd.float (some ⟨b47, 0, none⟩) 2 ([4613937818241073152, 4616189618054758400] : List Nat), .sl (Kd.int .i64) (some ⟨b40, 0, none⟩) 2 ([2, 1] : List Int), .sl Kd.float (some ⟨b31, 0, none⟩) 2 ([4607182418800017408, 4611686018427387904] : List Nat), .sl (Kd.int .i64) (some ⟨b24, 0, none⟩) 2 ([1, 2] : List Int)] w71 := hm67.box hbb70 hx74 hg75
  refine listOf hf73 rfl (by kernel_rfl) (aStoreB (b := b70) (j := 0) (T := 42) (cs := [.slice none 0 0, .slice none 0 0]) (us := [.slice A56 r23.1.Shape.length c57, .slice A58 r23.1.Data.length c59]) (cs' := [.slice A56 r23.1.Shape.length c57, .slice A58 r23.1.Data.length c59]) hf73 (by kernel_rfl) (hm76.bxAt 0 rfl) (by kernel_rfl) (by kernel_rfl) (by kernel_rfl) ?_)
  intro w77 hx78 hg79
  have hm80 : Mem [] M w0 [.bx b70 [.slice A56 r23.1.Shape.length c57, .slice A58 r23.1.Data.length c59] 42, .sl (Kd.int .i64) A56 c57 r23.1.Shape, .sl Kd.float A58 c59 r23.1.Data, .sl Kd.float (some ⟨b47, 0, none⟩) 2 ([4613937818241073152, 4616189618054758400] : List Nat), .sl (Kd.int .i64) (some ⟨b40, 0, none⟩) 2 ([2, 1] : List Int), .sl Kd.float (some ⟨b31, 0, none⟩) 2 ([4607182418800017408, 4611686018427387904] : List Nat), .sl (Kd.int .i64) (some ⟨b24, 0, none⟩) 2 ([1, 2] : List Int)] w77 := hm76.setBox 0 _ rfl rfl hx78 hg79
  refine go 1 [] [1, 2] [(1, .pointer (some ⟨b70, 0, none⟩)), (2, .int .i64 r23.2)] [] hf73 (by kernel_rfl) trivial fun a81 hf82 => ?_
  refine endL rfl ?_
  have hm83 : Mem [] M w0 [.bx b70 [.slice A56 r23.1.Shape.length c57, .slice A58 r23.1.Data.length c59] 42, .sl (Kd.int .i64) A56 c57 r23.1.Shape, .sl Kd.float A58 c59 r23.1.Data] w77 := hm80.sel [0, 1, 2] _ rfl (by kernel_rfl)
  refine thenN ?_
  refine wp_seq ?_
  rcases if_split H0 with ⟨c84, H0⟩ | ⟨c84, H0⟩
  · rcases if_split H0 with ⟨c85, H0⟩ | ⟨c85, H0⟩
    · obtain ⟨g86, H0⟩ := if_guard H0
      rcases ifb_split H0 with ⟨c87, H0⟩ | ⟨c87, H0⟩
      · have q88 := (hm83.slAt 2 rfl).float 0 g86.1 g86.2
        obtain ⟨b89, hb89, kb89⟩ := q88.2
        refine reg [.bool true, .slice A58 r23.1.Data.length c59, .bool true, .slice A58 r23.1.Data.length c59, .float .f64 b89, .bool true] [0] [(0, .bool true)] [.is (((r23.2 : Int) == 0) = true), .cell ⟨b70, 1, none⟩ (.slice A58 r23.1.Data.length c59), .is ((((r23.1.Data.length : Int) : Int) == 1) = true), .cell ⟨b70, 1, none⟩ (.slice A58 r23.1.Data.length c59), .is (Option.isSome A58 = true), .is ((0 : Int) ≤ 0 ∧ 0 < (r23.1.Data.length : Int)), .cell ((ad A58).add ((0 : Int).toNat * 1)) (.float .f64 b89), .is ((FloatKind.f64.format.order b89 4622382067542392832 == some .eq) = true)] hf82 (by kernel_rfl) ⟨(eqT c84), (hm83.cell 0 rfl rfl), (eqT c85), (hm83.cell 0 rfl rfl), q88.1, g86, kb89, (ftEq hb89 (FR.lit (by kernel_rfl) (by kernel_rfl)) c87), trivial⟩ fun a90 hf91 => ?_
        have hm92 : Mem [] M w0 [] w77 := hm83.sel [] _ rfl (by kernel_rfl)
        refine thenN ?_
        refine wp_ret ?_
        have hm93 : Mem [] M w0 [] w77 := hm92.sel [] _ rfl (by kernel_rfl)
        obtain rfl := Option.some.inj H0
        refine ret [] [.bool true] [] hf91 (by kernel_rfl) trivial ?_
        exact ⟨_, rfl, rfl, hm93⟩
      · have q95 := (hm83.slAt 2 rfl).float 0 g86.1 g86.2
        obtain ⟨b96, hb96, kb96⟩ := q95.2
        refine reg [.bool true, .slice A58 r23.1.Data.length c59, .bool true, .slice A58 r23.1.Data.length c59, .float .f64 b96, .bool false] [0] [(0, .bool false)] [.is (((r23.2 : Int) == 0) = true), .cell ⟨b70, 1, none⟩ (.slice A58 r23.1.Data.length c59), .is ((((r23.1.Data.length : Int) : Int) == 1) = true), .cell ⟨b70, 1, none⟩ (.slice A58 r23.1.Data.length c59), .is (Option.isSome A58 = true), .is ((0 : Int) ≤ 0 ∧ 0 < (r23.1.Data.length : Int)), .cell ((ad A58).add ((0 : Int).toNat * 1)) (.float .f64 b96), .is ((FloatKind.f64.format.order b96 4622382067542392832 == some .eq) = false)] hf82 (by kernel_rfl) ⟨(eqT c84), (hm83.cell 0 rfl rfl), (eqT c85), (hm83.cell 0 rfl rfl), q95.1, g86, kb96, (ftEq hb96 (FR.lit (by kernel_rfl) (by kernel_rfl)) c87), trivial⟩ fun a97 hf98 => ?_
        have hm99 : Mem [] M w0 [] w77 := hm83.sel [] _ rfl (by kernel_rfl)
        refine thenN ?_
        refine wp_ret ?_
        have hm100 : Mem [] M w0 [] w77 := hm99.sel [] _ rfl (by kernel_rfl)
        obtain rfl := Option.some.inj H0
        refine ret [] [.bool false] [] hf98 (by kernel_rfl) trivial ?_
        exact ⟨_, rfl, rfl, hm100⟩
    · refine reg [.bool true, .slice A58 r23.1.Data.length c59, .bool false] [0] [(0, .bool false)] [.is (((r23.2 : Int) == 0) = true), .cell ⟨b70, 1, none⟩ (.slice A58 r23.1.Data.length c59), .is ((((r23.1.Data.length : Int) : Int) == 1) = false)] hf82 (by kernel_rfl) ⟨(eqT c84), (hm83.cell 0 rfl rfl), (eqF c85), trivial⟩ fun a102 hf103 => ?_
      have hm104 : Mem [] M w0 [] w77 := hm83.sel [] _ rfl (by kernel_rfl)
      refine thenN ?_
      refine wp_ret ?_
      have hm105 : Mem [] M w0 [] w77 := hm104.sel [] _ rfl (by kernel_rfl)
      obtain rfl := Option.some.inj H0
      refine ret [] [.bool false] [] hf103 (by kernel_rfl) trivial ?_
      exact ⟨_, rfl, rfl, hm105⟩
  · refine reg [.bool false] [0] [(0, .bool false)] [.is (((r23.2 : Int) == 0) = false)] hf82 (by kernel_rfl) ⟨(eqF c84), trivial⟩ fun a107 hf108 => ?_
    have hm109 : Mem [] M w0 [] w77 := hm83.sel [] _ rfl (by kernel_rfl)
    refine thenN ?_
    refine wp_ret ?_
    have hm110 : Mem [] M w0 [] w77 := hm109.sel [] _ rfl (by kernel_rfl)
    obtain rfl := Option.some.inj H0
    refine ret [] [.bool false] [] hf108 (by kernel_rfl) trivial ?_
    exact ⟨_, rfl, rfl, hm110⟩

/-! ### backstitch/backstitchlaw3.Small -/
noncomputable def law3_Small.f (x0 : Tensor) : Option Bool :=
  if (x0.Shape.length : Int) ≤ 40 then (if (x0.Data.length : Int) ≤ 8192 then (some true)
  else (some false))
  else (some false)
set_option maxRecDepth 100000 in
set_option maxHeartbeats 4000000 in
theorem law3_Small.calls (M : List (Option Nat)) (w0 : World) (x0 : Tensor) (A0_0 : Option Addr) (n0_0 c0_0 : Nat) (e0_0 : n0_0 = x0.Shape.length) (A0_1 : Option Addr) (n0_1 c0_1 : Nat) (e0_1 : n0_1 = x0.Data.length) (hm0 : Mem [] M w0 [.sl (Kd.int .i64) A0_0 c0_0 x0.Shape, .sl Kd.float A0_1 c0_1 x0.Data] w0) (r : Bool) (H0 : law3_Small.f x0 = some r) :
    Calls Try.prog 33 [.agg #[.slice A0_0 n0_0 c0_0, .slice A0_1 n0_1 c0_1]].toArray w0 (fun x w' => ∃ v, x = .returned v ∧ v = .bool r ∧ Mem [] M w0 [] w') := by
  subst e0_0
  subst e0_1
  unfold law3_Small.f at H0
  refine enter (n := 13) Try.func33 rfl rfl (by kernel_rfl) fun a0 (hf0 : Fr 13 a0 [(0, .agg #[.slice A0_0 x0.Shape.length c0_0, .slice A0_1 x0.Data.length c0_1])]) => ?_
  refine wp_seq ?_
  refine inReg ?_
  refine listOf hf0 rfl (by kernel_rfl) (aNew (cs := [.slice A0_0 x0.Shape.length c0_0, .slice A0_1 x0.Data.length c0_1]) (T := 42) (d := 1) hf0 (by kernel_rfl) (by kernel_rfl) ?_)
  intro b21 w22 a23 hbb21 hx25 hg26 hf24
  have hm27 : Mem [] M w0 [.bx b21 [.slice A0_0 x0.Shape.length c0_0, .slice A0_1 x0.Data.length c0_1] 42, .sl (Kd.int .i64) A0_0 c0_0 x0.Shape, .sl Kd.float A0_1 c0_1 x0.Data] w22 := hm0.box hbb21 hx25 hg26
  refine go 1 [] [1] [(1, .pointer (some ⟨b21, 0, none⟩))] [] hf24 (by kernel_rfl) trivial fun a28 hf29 => ?_
  refine endL rfl ?_
  refine thenN ?_
  refine wp_seq ?_
  rcases if_split H0 with ⟨c30, H0⟩ | ⟨c30, H0⟩
  · rcases if_split H0 with ⟨c31, H0⟩ | ⟨c31, H0⟩
    · refine reg [.slice A0_0 x0.Shape.length c0_0, .bool true, .slice A0_1 x0.Data.length c0_1, .bool true] [2] [(2, .bool true)] [.cell ⟨b21, 0, none⟩ (.slice A0_0 x0.Shape.length c0_0), .is (decide ((x0.Shape.length : Int) ≤ 40) = true), .cell ⟨b21, 1, none⟩ (.slice A0_1 x0.Data.length c0_1), .is (decide ((x0.Data.length : Int) ≤ 8192) = true)] hf29 (by kernel_rfl) ⟨(hm27.cell 0 rfl rfl), (decide_eq_true c30), (hm27.cell 0 rfl rfl), (decide_eq_true c31), trivial⟩ fun a32 hf33 => ?_
      have hm34 : Mem [] M w0 [] w22 := hm27.sel [] _ rfl (by kernel_rfl)
      refine thenN ?_
      refine wp_ret ?_
      have hm35 : Mem [] M w0 [] w22 := hm34.sel [] _ rfl (by kernel_rfl)
      obtain rfl := Option.some.inj H0
      refine ret [] [.bool true] [] hf33 (by kernel_rfl) trivial ?_
      exact ⟨_, rfl, rfl, hm35⟩
    · refine reg [.slice A0_0 x0.Shape.length c0_0, .bool true, .slice A0_1 x0.Data.length c0_1, .bool false] [2] [(2, .bool false)] [.cell ⟨b21, 0, none⟩ (.slice A0_0 x0.Shape.length c0_0), .is (decide ((x0.Shape.length : Int) ≤ 40) = true), .cell ⟨b21, 1, none⟩ (.slice A0_1 x0.Data.length c0_1), .is (decide ((x0.Data.length : Int) ≤ 8192) = false)] hf29 (by kernel_rfl) ⟨(hm27.cell 0 rfl rfl), (decide_eq_true c30), (hm27.cell 0 rfl rfl), (decide_eq_false c31), trivial⟩ fun a37 hf38 => ?_
      have hm39 : Mem [] M w0 [] w22 := hm27.sel [] _ rfl (by kernel_rfl)
      refine thenN ?_
      refine wp_ret ?_
      have hm40 : Mem [] M w0 [] w22 := hm39.sel [] _ rfl (by kernel_rfl)
      obtain rfl := Option.some.inj H0
      refine ret [] [.bool false] [] hf38 (by kernel_rfl) trivial ?_
      exact ⟨_, rfl, rfl, hm40⟩
  · refine reg [.slice A0_0 x0.Shape.length c0_0, .bool false] [2] [(2, .bool false)] [.cell ⟨b21, 0, none⟩ (.slice A0_0 x0.Shape.length c0_0), .is (decide ((x0.Shape.length : Int) ≤ 40) = false)] hf29 (by kernel_rfl) ⟨(hm27.cell 0 rfl rfl), (decide_eq_false c30), trivial⟩ fun a42 hf43 => ?_
    have hm44 : Mem [] M w0 [] w22 := hm27.sel [] _ rfl (by kernel_rfl)
    refine thenN ?_
    refine wp_ret ?_
    have hm45 : Mem [] M w0 [] w22 := hm44.sel [] _ rfl (by kernel_rfl)
    obtain rfl := Option.some.inj H0
    refine ret [] [.bool false] [] hf43 (by kernel_rfl) trivial ?_
    exact ⟨_, rfl, rfl, hm45⟩

/-! ### backstitch/backstitchref1.Bits -/
noncomputable def ref1_Bits.f (x0 : Nat) : Option Int :=
  if (fne x0 x0) = true then (some 9221120237041090561)
  else (some (x0 : Int))
set_option maxRecDepth 100000 in
set_option maxHeartbeats 4000000 in
theorem ref1_Bits.calls (M : List (Option Nat)) (w0 : World) (x0 : Nat) (b0 : Nat) (h0 : FR b0 x0) (hm0 : Mem [] M w0 [] w0) (r : Int) (H0 : ref1_Bits.f x0 = some r) :
    Calls Try.prog 57 [.float .f64 b0].toArray w0 (fun x w' => ∃ v, x = .returned v ∧ v = .int .u64 r ∧ Mem [] M w0 [] w') := by
  unfold ref1_Bits.f at H0
  refine enter (n := 8) Try.func57 rfl rfl (by kernel_rfl) fun a0 (hf0 : Fr 8 a0 [(0, .float .f64 b0)]) => ?_
  refine wp_seq ?_
  refine reg [] [0] [(0, .float .f64 b0)] [] hf0 (by kernel_rfl) trivial fun a21 hf22 => ?_
  refine thenN ?_
  refine wp_seq ?_
  refine wp_seq ?_
  rcases ifb_split H0 with ⟨c23, H0⟩ | ⟨c23, H0⟩
  · refine reg [.bool true] [0, 5] [(0, .float .f64 b0), (5, .bool true)] [.is ((FloatKind.f64.format.order b0 b0 != some .eq) = true)] hf22 (by kernel_rfl) ⟨(ftNe h0 h0 c23), trivial⟩ fun a24 hf25 => ?_
    refine thenN ?_
    refine condT hf25 (by kernel_rfl) ?_
    refine wp_seq ?_
    refine reg [] [2] [(2, .int .u64 9221120237041090561)] [] hf25 (by kernel_rfl) trivial fun a26 hf27 => ?_
    refine thenN ?_
    refine wp_ret ?_
    refine thenR ?_
    have hm28 : Mem [] M w0 [] w0 := hm0.sel [] _ rfl (by kernel_rfl)
    obtain rfl := Option.some.inj H0
    refine ret [] [.int .u64 9221120237041090561] [] hf27 (by kernel_rfl) trivial ?_
    exact ⟨_, rfl, rfl, hm28⟩
  · refine reg [.bool false] [0, 5] [(0, .float .f64 b0), (5, .bool false)] [.is ((FloatKind.f64.format.order b0 b0 != some .eq) = false)] hf22 (by kernel_rfl) ⟨(ftNe h0 h0 c23), trivial⟩ fun a30 hf31 => ?_
    refine thenN ?_
    refine condF hf31 (by kernel_rfl) ?_
    refine wp_skip ?_
    refine thenN ?_
    refine wp_seq ?_
    refine inReg ?_
    refine go 1 [] [6] [(6, .float .f64 b0)] [] hf31 (by kernel_rfl) trivial fun a32 hf33 => ?_
    refine listOf hf33 rfl (by kernel_rfl) (aExtern (fid := 67) (args := [.float .f64 b0]) (d := 7) (R := fun v w' => v = .int .u64 (x0 : Int) ∧ w0 = w') hf33 (by kernel_rfl) (by kernel_rfl) ⟨_, Try.func67, rfl, rfl, by kernel_rfl, rfl⟩ ⟨_, _, run_bits _, by rw [FR.bits h0 c23], rfl⟩ ?_)
    rintro _ _ a35 ⟨rfl, rfl⟩ hf36
    refine go 1 [] [2] [(2, .int .u64 (x0 : Int))] [] hf36 (by kernel_rfl) trivial fun a37 hf38 => ?_
    refine endL rfl ?_
    refine thenN ?_
    refine wp_ret ?_
    have hm39 : Mem [] M w0 [] w0 := hm0.sel [] _ rfl (by kernel_rfl)
    obtain rfl := Option.some.inj H0
    refine ret [] [.int .u64 (x0 : Int)] [] hf38 (by kernel_rfl) trivial ?_
    exact ⟨_, rfl, rfl, hm39⟩

/-! ### backstitch/backstitchref1.Same -/
noncomputable def ref1_Same.f (x0 : Nat) (x1 : Nat) : Option Bool :=
  (ref1_Bits.f x0).bind fun r23 =>
  (ref1_Bits.f x1).bind fun r24 =>
  if r23 = r24 then (some true)
  else (some false)
set_option maxRecDepth 100000 in
set_option maxHeartbeats 4000000 in
theorem ref1_Same.calls (M : List (Option Nat)) (w0 : World) (x0 : Nat) (b0 : Nat) (h0 : FR b0 x0) (x1 : Nat) (b1 : Nat) (h1 : FR b1 x1) (hm0 : Mem [] M w0 [] w0) (r : Bool) (H0 : ref1_Same.f x0 x1 = some r) :
    Calls Try.prog 35 [.float .f64 b0, .float .f64 b1].toArray w0 (fun x w' => ∃ v, x = .returned v ∧ v = .bool r ∧ Mem [] M w0 [] w') := by
  unfold ref1_Same.f at H0
  refine enter (n := 10) Try.func35 rfl rfl (by kernel_rfl) fun a0 (hf0 : Fr 10 a0 [(0, .float .f64 b0), (1, .float .f64 b1)]) => ?_
  refine wp_seq ?_
  refine reg [] [0, 1] [(0, .float .f64 b0), (1, .float .f64 b1)] [] hf0 (by kernel_rfl) trivial fun a21 hf22 => ?_
  refine thenN ?_
  refine wp_seq ?_
  obtain ⟨r23, hr23, H0⟩ := ob_split H0
  obtain ⟨r24, hr24, H0⟩ := ob_split H0
  rcases if_split H0 with ⟨c25, H0⟩ | ⟨c25, H0⟩
  · refine inReg ?_
    refine go 1 [] [1, 5] [(1, .float .f64 b1), (5, .float .f64 b0)] [] hf22 (by kernel_rfl) trivial fun a26 hf27 => ?_
    refine listOf hf27 rfl (by kernel_rfl) (aCall (fid := 57) (args := [.float .f64 b0]) (d := 6) hf27 (by kernel_rfl) (by kernel_rfl) callable57 (ref1_Bits.calls _ _ x0 b0 h0 (hm0.give [] [] rfl rfl) r23 hr23) ?_)
    rintro _ w28 a29 ⟨rfl, hk31⟩ hf30
    have hm32 : Mem [] M w0 [] w28 := hm0.still hk31.cum.none
    refine go 1 [] [6, 7] [(6, .int .u64 r23), (7, .float .f64 b1)] [] hf30 (by kernel_rfl) trivial fun a33 hf34 => ?_
    refine listOf hf34 rfl (by kernel_rfl) (aCall (fid := 57) (args := [.float .f64 b1]) (d := 8) hf34 (by kernel_rfl) (by kernel_rfl) callable57 (ref1_Bits.calls _ _ x1 b1 h1 (hm32.give [] [] rfl rfl) r24 hr24) ?_)
    rintro _ w35 a36 ⟨rfl, hk38⟩ hf37
    have hm39 : Mem [] M w0 [] w35 := hm32.still hk38.cum.none
    refine go 2 [.bool true] [4] [(4, .bool true)] [.is (((r23 : Int) == r24) = true)] hf37 (by kernel_rfl) ⟨(eqT c25), trivial⟩ fun a40 hf41 => ?_
    refine endL rfl ?_
    refine thenN ?_
    refine wp_ret ?_
    have hm42 : Mem [] M w0 [] w35 := hm39.sel [] _ rfl (by kernel_rfl)
    obtain rfl := Option.some.inj H0
    refine ret [] [.bool true] [] hf41 (by kernel_rfl) trivial ?_
    exact ⟨_, rfl, rfl, hm42⟩
  · refine inReg ?_
    refine go 1 [] [1, 5] [(1, .float .f64 b1), (5, .float .f64 b0)] [] hf22 (by kernel_rfl) trivial fun a44 hf45 => ?_
    refine listOf hf45 rfl (by kernel_rfl) (aCall (fid := 57) (args := [.float .f64 b0]) (d := 6) hf45 (by kernel_rfl) (by kernel_rfl) callable57 (ref1_Bits.calls _ _ x0 b0 h0 (hm0.give [] [] rfl rfl) r23 hr23) ?_)
    rintro _ w46 a47 ⟨rfl, hk49⟩ hf48
    have hm50 : Mem [] M w0 [] w46 := hm0.still hk49.cum.none
    refine go 1 [] [6, 7] [(6, .int .u64 r23), (7, .float .f64 b1)] [] hf48 (by kernel_rfl) trivial fun a51 hf52 => ?_
    refine listOf hf52 rfl (by kernel_rfl) (aCall (fid := 57) (args := [.float .f64 b1]) (d := 8) hf52 (by kernel_rfl) (by kernel_rfl) callable57 (ref1_Bits.calls _ _ x1 b1 h1 (hm50.give [] [] rfl rfl) r24 hr24) ?_)
    rintro _ w53 a54 ⟨rfl, hk56⟩ hf55
    have hm57 : Mem [] M w0 [] w53 := hm50.still hk56.cum.none
    refine go 2 [.bool false] [4] [(4, .bool false)] [.is (((r23 : Int) == r24) = false)] hf55 (by kernel_rfl) ⟨(eqF c25), trivial⟩ fun a58 hf59 => ?_
    refine endL rfl ?_
    refine thenN ?_
    refine wp_ret ?_
    have hm60 : Mem [] M w0 [] w53 := hm57.sel [] _ rfl (by kernel_rfl)
    obtain rfl := Option.some.inj H0
    refine ret [] [.bool false] [] hf59 (by kernel_rfl) trivial ?_
    exact ⟨_, rfl, rfl, hm60⟩

/-! ### backstitch/backstitchlaw5.matrixOf -/
noncomputable def law5_matrixOf.l0 (x0 : Int) (x1 : Int) (x3 : Int) (x2 : (List Int)) (s56 : (Int × (List Nat))) : Step (Int × (List Nat)) (Int × (List Nat)) :=
  if s56.1 < (w64 (x0 * x1)) then (if (w64 (x3 + s56.1)) < (x2.length : Int) then (if 0 ≤ (w64 (x3 + s56.1)) ∧ (w64 (x3 + s56.1)) < (x2.length : Int) then (if s56.2.length + 1 ≤ 549755813888 then (.next ((w64 (s56.1 + 1)), (s56.2 ++ ([(ofInt (rd x2 (w64 (x3 + s56.1))))] : List Nat))))
  else .bad)
  else .bad)
  else (if s56.2.length + 1 ≤ 549755813888 then (.next ((w64 (s56.1 + 1)), (s56.2 ++ ([0] : List Nat))))
  else .bad))
  else (.done (s56.1, s56.2))
noncomputable def law5_matrixOf.f (x0 : Int) (x1 : Int) (x2 : (List Int)) (x3 : Int) : Option Tensor :=
  (loop (law5_matrixOf.l0 x0 x1 x3 x2) (0, ([] : (List Nat)))).bind fun r59 =>
  some (⟨([x0, x1] : List Int), r59.2⟩ : Tensor)
set_option maxRecDepth 100000 in
set_option maxHeartbeats 4000000 in
theorem law5_matrixOf.calls (M : List (Option Nat)) (w0 : World) (x0 : Int) (x1 : Int) (x2 : (List Int)) (A2 : Option Addr) (n2 c2 : Nat) (e2 : n2 = x2.length) (x3 : Int) (hm0 : Mem [] M w0 [.sl (Kd.int .i8) A2 c2 x2] w0) (r : Tensor) (H0 : law5_matrixOf.f x0 x1 x2 x3 = some r) :
    Calls Try.prog 36 [.int .i64 x0, .int .i64 x1, .slice A2 n2 c2, .int .i64 x3].toArray w0 (fun x w' => ∃ v, x = .returned v ∧ ∃ Ar0_0 cr0_0 Ar0_1 cr0_1, v = .agg #[.slice Ar0_0 r.Shape.length cr0_0, .slice Ar0_1 r.Data.length cr0_1] ∧ Mem [] M w0 [.ow (Kd.int .i64) 3 Ar0_0 cr0_0 r.Shape, .ow Kd.float 47 Ar0_1 cr0_1 r.Data] w') := by
  subst e2
  unfold law5_matrixOf.f at H0
  refine enter (n := 43) Try.func36 rfl rfl (by kernel_rfl) fun a0 (hf0 : Fr 43 a0 [(0, .int .i64 x0), (1, .int .i64 x1), (2, .slice A2 x2.length c2), (3, .int .i64 x3)]) => ?_
  refine wp_seq ?_
  refine inReg ?_
  refine listOf hf0 rfl (by kernel_rfl) (aNew (cs := [.slice none 0 0, .slice none 0 0]) (T := 42) (d := 8) hf0 (by kernel_rfl) (by kernel_rfl) ?_)
  intro b21 w22 a23 hbb21 hx25 hg26 hf24
  have hm27 : Mem [] M w0 [.bx b21 [.slice none 0 0, .slice none 0 0] 42, .sl (Kd.int .i8) A2 c2 x2] w22 := hm0.box hbb21 hx25 hg26
  refine endL rfl ?_
  refine thenN ?_
  refine wp_seq ?_
  refine inReg ?_
  refine go 2 [] [0, 1, 2, 3, 8, 12, 13] [(0, .int .i64 x0), (1, .int .i64 x1), (2, .slice A2 x2.length c2), (3, .int .i64 x3), (8, .pointer (some ⟨b21, 0, none⟩)), (12, .int .i64 x0), (13, .int .i64 x1)] [] hf24 (by kernel_rfl) trivial fun a28 hf29 => ?_
  refine listOf hf29 rfl (by kernel_rfl) (aLit (cs := [.int .i64 x0, .int .i64 x1]) (E := 3) (len := 2) (d := 14) hf29 (by kernel_rfl) (by kernel_rfl) ?_)
  intro b30 w31 a32 hbb30 hx34 hg35 hf33
  have hm36 : Mem [] M w0 [.ow (Kd.int .i64) 3 (some ⟨b30, 0, none⟩) 2 ([x0, x1] : List Int), .bx b21 [.slice none 0 0, .slice none 0 0] 42, .sl (Kd.int .i8) A2 c2 x2] w31 := Mem.litOwn (kd := (Kd.int .i64)) (xs := ([x0, x1] : List Int)) hm27 hbb30 hx34 hg35 (Els.append (Els.one (kd := (Kd.int .i64)) (us := [.int .i64 x0]) (x := x0) rfl) (Els.one (kd := (Kd.int .i64)) (us := [.int .i64 x1]) (x := x1) rfl)) (by simp [maxLen])
  refine go 1 [] [0, 1, 2, 3, 8, 15] [(0, .int .i64 x0), (1, .int .i64 x1), (2, .slice A2 x2.length c2), (3, .int .i64 x3), (8, .pointer (some ⟨b21, 0, none⟩)), (15, .agg #[.slice (some ⟨b30, 0, none⟩) 2 2, .slice none 0 0])] [] hf33 (by kernel_rfl) trivial fun a37 hf38 => ?_
  refine listOf hf38 rfl (by kernel_rfl) (aNew (cs := [.slice none 0 0, .slice none 0 0]) (T := 42) (d := 9) hf38 (by kernel_rfl) (by kernel_rfl) ?_)
  intro b39 w40 a41 hbb39 hx43 hg44 hf42
  have hm45 : Mem [] M w0 [.bx b39 [.slice none 0 0, .slice none 0 0] 42, .ow (Kd.int .i64) 3 (some ⟨b30, 0, none⟩) 2 ([x0, x1] : List Int), .bx b21 [.slice none 0 0, .slice none 0 0] 42, .sl (Kd.int .i8) A2 c2 x2] w40 := hm36.box hbb39 hx43 hg44
  refine listOf hf42 rfl (by kernel_rfl) (aStoreB (b := b39) (j := 0) (T := 42) (cs := [.slice none 0 0, .slice none 0 0]) (us := [.slice (some ⟨b30, 0, none⟩) 2 2, .slice none 0 0]) (cs' := [.slice (some ⟨b30, 0, none⟩) 2 2, .slice none 0 0]) hf42 (by kernel_rfl) (hm45.bxAt 0 rfl) (by kernel_rfl) (by kernel_rfl) (by kernel_rfl) ?_)
  intro w46 hx47 hg48
  have hm49 : Mem [] M w0 [.bx b39 [.slice (some ⟨b30, 0, none⟩) 2 2, .slice none 0 0] 42, .ow (Kd.int .i64) 3 (some ⟨b30, 0, none⟩) 2 ([x0, x1] : List Int), .bx b21 [.slice none 0 0, .slice none 0 0] 42, .sl (Kd.int .i8) A2 c2 x2] w46 := hm45.setBox 0 _ rfl rfl hx47 hg48
  refine endL rfl ?_
  refine thenN ?_
  refine wp_seq ?_
  refine wp_seq ?_
  refine reg [] [0, 1, 2, 3, 8, 9, 10] [(0, .int .i64 x0), (1, .int .i64 x1), (2, .slice A2 x2.length c2), (3, .int .i64 x3), (8, .pointer (some ⟨b21, 0, none⟩)), (9, .pointer (some ⟨b39, 0, none⟩)), (10, .int .i64 0)] [] hf42 (by kernel_rfl) trivial fun a50 hf51 => ?_
  refine thenN ?_
  have hm53 : Mem [] M w0 [.ow Kd.float 47 none 0 ([] : (List Nat)), .bx b39 [.slice (some ⟨b30, 0, none⟩) 2 2, .slice none 0 0] 42, .ow (Kd.int .i64) 3 (some ⟨b30, 0, none⟩) 2 ([x0, x1] : List Int), .bx b21 [.slice none 0 0, .slice none 0 0] 42, .sl (Kd.int .i8) A2 c2 x2] w46 := hm49.nilOw Kd.float 47
  obtain ⟨r59, hr59, H0⟩ := ob_split H0
  refine wpBlock (Mid := fun (a : Act) (w : World) => ∃ (A57 : Option Addr) (c58 : Nat), Fr 43 a [(0, .int .i64 x0), (1, .int .i64 x1), (2, .slice A2 x2.length c2), (3, .int .i64 x3), (8, .pointer (some ⟨b21, 0, none⟩)), (9, .pointer (some ⟨b39, 0, none⟩)), (10, .int .i64 r59.1)] ∧ Mem [] M w0 [.ow Kd.float 47 A57 c58 r59.2, .bx b39 [.slice (some ⟨b30, 0, none⟩) 2 2, .slice A57 r59.2.length c58] 42, .ow (Kd.int .i64) 3 (some ⟨b30, 0, none⟩) 2 ([x0, x1] : List Int), .bx b21 [.slice none 0 0, .slice none 0 0] 42, .sl (Kd.int .i8) A2 c2 x2] w) ?_ ?_
  · refine wpLoop (law5_matrixOf.l0 x0 x1 x3 x2) r59 (fun (s56 : (Int × (List Nat))) (a : Act) (w : World) => ∃ (A57 : Option Addr) (c58 : Nat), Fr 43 a [(0, .int .i64 x0), (1, .int .i64 x1), (2, .slice A2 x2.length c2), (3, .int .i64 x3), (8, .pointer (some ⟨b21, 0, none⟩)), (9, .pointer (some ⟨b39, 0, none⟩)), (10, .int .i64 s56.1)] ∧ Mem [] M w0 [.ow Kd.float 47 A57 c58 s56.2, .bx b39 [.slice (some ⟨b30, 0, none⟩) 2 2, .slice A57 s56.2.length c58] 42, .ow (Kd.int .i64) 3 (some ⟨b30, 0, none⟩) 2 ([x0, x1] : List Int), .bx b21 [.slice none 0 0, .slice none 0 0] 42, .sl (Kd.int .i8) A2 c2 x2] w) (0, ([] : (List Nat))) hr59 ⟨none, 0, hf51.sel (l := [0, 1, 2, 3, 8, 9, 10]) (by kernel_rfl), hm53.sel [0, 1, 2, 3, 4] _ rfl (by kernel_rfl)⟩ ?_
    rintro g60 s56 a61 w62 H1 ⟨A57, c58, hf63, hm65⟩
    unfold law5_matrixOf.l0 at H1
    refine wp_seq ?_
    refine wp_seq ?_
    rcases ifS_split H1 with ⟨c66, H1⟩ | ⟨c66, H1⟩
    · refine reg [.bool true] [0, 1, 2, 3, 8, 9, 10, 20] [(0, .int .i64 x0), (1, .int .i64 x1), (2, .slice A2 x2.length c2), (3, .int .i64 x3), (8, .pointer (some ⟨b21, 0, none⟩)), (9, .pointer (some ⟨b39, 0, none⟩)), (10, .int .i64 s56.1), (20, .bool true)] [.is (decide (s56.1 < (w64 (x0 * x1))) = true)] hf63 (by kernel_rfl) ⟨(decide_eq_true c66), trivial⟩ fun a67 hf68 => ?_
      refine thenN ?_
      refine condT hf68 (by kernel_rfl) ?_
      refine wp_skip ?_
      refine thenN ?_
      refine wp_seq ?_
      refine wp_block ?_
      refine wp_seq ?_
      refine reg [] [0, 1, 2, 3, 8, 9, 10, 11] [(0, .int .i64 x0), (1, .int .i64 x1), (2, .slice A2 x2.length c2), (3, .int .i64 x3), (8, .pointer (some ⟨b21, 0, none⟩)), (9, .pointer (some ⟨b39, 0, none⟩)), (10, .int .i64 s56.1), (11, .float .f64 0)] [] hf68 (by kernel_rfl) trivial fun a69 hf70 => ?_
      refine thenN ?_
      refine wp_seq ?_
      refine wp_seq ?_
      rcases ifS_split H1 with ⟨c71, H1⟩ | ⟨c71, H1⟩
      · refine reg [.bool true] [0, 1, 2, 3, 8, 9, 10, 11, 28] [(0, .int .i64 x0), (1, .int .i64 x1), (2, .slice A2 x2.length c2), (3, .int .i64 x3), (8, .pointer (some ⟨b21, 0, none⟩)), (9, .pointer (some ⟨b39, 0, none⟩)), (10, .int .i64 s56.1), (11, .float .f64 0), (28, .bool true)] [.is (decide ((w64 (x3 + s56.1)) < (x2.length : Int)) = true)] hf70 (by kernel_rfl) ⟨(decide_eq_true c71), trivial⟩ fun a72 hf73 => ?_
        refine thenN ?_
        refine condT hf73 (by kernel_rfl) ?_
        obtain ⟨g74, H1⟩ := ifS_guard H1
        have q75 := (hm65.slAt 4 rfl).int (w64 (x3 + s56.1)) g74.1 g74.2
        refine reg [.int .i8 (rd x2 (w64 (x3 + s56.1)))] [0, 1, 2, 3, 8, 9, 10, 11] [(0, .int .i64 x0), (1, .int .i64 x1), (2, .slice A2 x2.length c2), (3, .int .i64 x3), (8, .pointer (some ⟨b21, 0, none⟩)), (9, .pointer (some ⟨b39, 0, none⟩)), (10, .int .i64 s56.1), (11, .float .f64 (FloatKind.f64.nearest (rd x2 (w64 (x3 + s56.1)))))] [.is (Option.isSome A2 = true), .is (0 ≤ (w64 (x3 + s56.1)) ∧ (w64 (x3 + s56.1)) < (x2.length : Int)), .cell ((ad A2).add (((w64 (x3 + s56.1))).toNat * 1)) (.int .i8 (rd x2 (w64 (x3 + s56.1))))] hf73 (by kernel_rfl) ⟨q75.1, g74, q75.2, trivial⟩ fun a76 hf77 => ?_
        refine thenN ?_
        obtain ⟨g78, H1⟩ := ifS_guard H1
        refine inReg ?_
        refine go 3 [.slice A57 s56.2.length c58] [0, 1, 2, 3, 8, 9, 10, 37, 38] [(0, .int .i64 x0), (1, .int .i64 x1), (2, .slice A2 x2.length c2), (3, .int .i64 x3), (8, .pointer (some ⟨b21, 0, none⟩)), (9, .pointer (some ⟨b39, 0, none⟩)), (10, .int .i64 s56.1), (37, .slice A57 s56.2.length c58), (38, .float .f64 (FloatKind.f64.nearest (rd x2 (w64 (x3 + s56.1)))))] [.cell ⟨b39, 1, none⟩ (.slice A57 s56.2.length c58)] hf77 (by kernel_rfl) ⟨(hm65.cell 1 rfl rfl), trivial⟩ fun a79 hf80 => ?_
        refine listOf hf80 rfl (by kernel_rfl) (aLit (cs := [.float .f64 (FloatKind.f64.nearest (rd x2 (w64 (x3 + s56.1))))]) (E := 47) (len := 1) (d := 39) hf80 (by kernel_rfl) (by kernel_rfl) ?_)
        intro b81 w82 a83 hbb81 hx85 hg86 hf84
        have hm65s := hm65.still hg86
        have hm87 : Mem [] M w0 [.sl Kd.float (some ⟨b81, 0, none⟩) 1 ([(ofInt (rd x2 (w64 (x3 + s56.1))))] : List Nat), .ow Kd.float 47 A57 c58 s56.2, .bx b39 [.slice (some ⟨b30, 0, none⟩) 2 2, .slice A57 s56.2.length c58] 42, .ow (Kd.int .i64) 3 (some ⟨b30, 0, none⟩) 2 ([x0, x1] : List Int), .bx b21 [.slice none 0 0, .slice none 0 0] 42, .sl (Kd.int .i8) A2 c2 x2] w82 := Mem.lit (kd := Kd.float) (xs := ([(ofInt (rd x2 (w64 (x3 + s56.1))))] : List Nat)) hm65 hbb81 hx85 hg86 (Els.one (kd := Kd.float) (us := [.float .f64 (FloatKind.f64.nearest (rd x2 (w64 (x3 + s56.1))))]) (x := (ofInt (rd x2 (w64 (x3 + s56.1))))) ⟨_, rfl, (FR.ofInt (rd x2 (w64 (x3 + s56.1))))⟩)
        have e96 : s56.2.length = s56.2.length := rfl
        have e97 : 1 = ([(ofInt (rd x2 (w64 (x3 + s56.1))))] : List Nat).length := rfl
        refine listOf hf84 rfl (by kernel_rfl) (aApp (kd := Kd.float) (base := 0) (E := 47) (A := A57) (B := (some ⟨b81, 0, none⟩)) (c := c58) (c2 := 1) (xs := s56.2) (ys := ([(ofInt (rd x2 (w64 (x3 + s56.1))))] : List Nat)) (k := s56.2.length) (m := 1) (sz := 1) (d := 40) hf84 (by kernel_rfl) e96 e97 (by kernel_rfl) rfl (by kernel_rfl) (hm87.at 1 rfl) (hm87.at2 1 0 rfl rfl).2 (hm87.cpAt 0 rfl) (Nat.zero_le _) (by have := g78; omega) ?_)
        intro A88 c89 w90 a91 ho93 hg94 hr95 hf92
        have hm98 : Mem [] M w0 [.sl Kd.float (some ⟨b81, 0, none⟩) 1 ([(ofInt (rd x2 (w64 (x3 + s56.1))))] : List Nat), .ow Kd.float 47 A88 c89 (s56.2 ++ ([(ofInt (rd x2 (w64 (x3 + s56.1))))] : List Nat)), .bx b39 [.slice (some ⟨b30, 0, none⟩) 2 2, .slice A57 s56.2.length c58] 42, .ow (Kd.int .i64) 3 (some ⟨b30, 0, none⟩) 2 ([x0, x1] : List Int), .bx b21 [.slice none 0 0, .slice none 0 0] 42, .sl (Kd.int .i8) A2 c2 x2] w90 := hm87.setOwn 1 _ rfl rfl ho93 hg94 hr95
        refine go 1 [] [0, 1, 2, 3, 8, 9, 10, 40, 41] [(0, .int .i64 x0), (1, .int .i64 x1), (2, .slice A2 x2.length c2), (3, .int .i64 x3), (8, .pointer (some ⟨b21, 0, none⟩)), (9, .pointer (some ⟨b39, 0, none⟩)), (10, .int .i64 s56.1), (40, .slice A88 ((s56.2 ++ ([(ofInt (rd x2 (w64 (x3 + s56.1))))] : List Nat)).length) c89), (41, .pointer (some ⟨b39, 1, none⟩))] [] hf92 (by kernel_rfl) trivial fun a99 hf100 => ?_
        refine listOf hf100 rfl (by kernel_rfl) (aStoreB (b := b39) (j := 1) (T := 42) (cs := [.slice (some ⟨b30, 0, none⟩) 2 2, .slice A57 s56.2.length c58]) (us := [.slice A88 ((s56.2 ++ ([(ofInt (rd x2 (w64 (x3 + s56.1))))] : List Nat)).length) c89]) (cs' := [.slice (some ⟨b30, 0, none⟩) 2 2, .slice A88 ((s56.2 ++ ([(ofInt (rd x2 (w64 (x3 + s56.1))))] : List Nat)).length) c89]) hf100 (by kernel_rfl) (hm98.bxAt 2 rfl) (by kernel_rfl) (by kernel_rfl) (by kernel_rfl) ?_)
        intro w101 hx102 hg103
        have hm104 : Mem [] M w0 [.sl Kd.float (some ⟨b81, 0, none⟩) 1 ([(ofInt (rd x2 (w64 (x3 + s56.1))))] : List Nat), .ow Kd.float 47 A88 c89 (s56.2 ++ ([(ofInt (rd x2 (w64 (x3 + s56.1))))] : List Nat)), .bx b39 [.slice (some ⟨b30, 0, none⟩) 2 2, .slice A88 ((s56.2 ++ ([(ofInt (rd x2 (w64 (x3 + s56.1))))] : List Nat)).length) c89] 42, .ow (Kd.int .i64) 3 (some ⟨b30, 0, none⟩) 2 ([x0, x1] : List Int), .bx b21 [.slice none 0 0, .slice none 0 0] 42, .sl (Kd.int .i8) A2 c2 x2] w101 := hm98.setBox 2 _ rfl rfl hx102 hg103
        refine endL rfl ?_
        have hm105 : Mem [] M w0 [.ow Kd.float 47 A88 c89 (s56.2 ++ ([(ofInt (rd x2 (w64 (x3 + s56.1))))] : List Nat)), .bx b39 [.slice (some ⟨b30, 0, none⟩) 2 2, .slice A88 ((s56.2 ++ ([(ofInt (rd x2 (w64 (x3 + s56.1))))] : List Nat)).length) c89] 42, .ow (Kd.int .i64) 3 (some ⟨b30, 0, none⟩) 2 ([x0, x1] : List Int), .bx b21 [.slice none 0 0, .slice none 0 0] 42, .sl (Kd.int .i8) A2 c2 x2] w101 := hm104.sel [1, 2, 3, 4, 5] _ rfl (by kernel_rfl)
        refine blkN ?_
        refine thenN ?_
        refine reg [] [0, 1, 2, 3, 8, 9, 10] [(0, .int .i64 x0), (1, .int .i64 x1), (2, .slice A2 x2.length c2), (3, .int .i64 x3), (8, .pointer (some ⟨b21, 0, none⟩)), (9, .pointer (some ⟨b39, 0, none⟩)), (10, .int .i64 (w64 (s56.1 + 1)))] [] hf100 (by kernel_rfl) trivial fun a106 hf107 => ?_
        exact ⟨((w64 (s56.1 + 1)), (s56.2 ++ ([(ofInt (rd x2 (w64 (x3 + s56.1))))] : List Nat))), H1, A88, c89, hf107.sel (l := [0, 1, 2, 3, 8, 9, 10]) (by kernel_rfl), hm105.sel [0, 1, 2, 3, 4] _ rfl (by kernel_rfl)⟩
      · refine reg [.bool false] [0, 1, 2, 3, 8, 9, 10, 11, 28] [(0, .int .i64 x0), (1, .int .i64 x1), (2, .slice A2 x2.length c2), (3, .int .i64 x3), (8, .pointer (some ⟨b21, 0, none⟩)), (9, .pointer (some ⟨b39, 0, none⟩)), (10, .int .i64 s56.1), (11, .float .f64 0), (28, .bool false)] [.is (decide ((w64 (x3 + s56.1)) < (x2.length : Int)) = false)] hf70 (by kernel_rfl) ⟨(decide_eq_false c71), trivial⟩ fun a108 hf109 => ?_
        refine thenN ?_
        refine condF hf109 (by kernel_rfl) ?_
        refine wp_skip ?_
        refine thenN ?_
        obtain ⟨g110, H1⟩ := ifS_guard H1
        refine inReg ?_
        refine go 3 [.slice A57 s56.2.length c58] [0, 1, 2, 3, 8, 9, 10, 37, 38] [(0, .int .i64 x0), (1, .int .i64 x1), (2, .slice A2 x2.length c2), (3, .int .i64 x3), (8, .pointer (some ⟨b21, 0, none⟩)), (9, .pointer (some ⟨b39, 0, none⟩)), (10, .int .i64 s56.1), (37, .slice A57 s56.2.length c58), (38, .float .f64 0)] [.cell ⟨b39, 1, none⟩ (.slice A57 s56.2.length c58)] hf109 (by kernel_rfl) ⟨(hm65.cell 1 rfl rfl), trivial⟩ fun a111 hf112 => ?_
        refine listOf hf112 rfl (by kernel_rfl) (aLit (cs := [.float .f64 0]) (E := 47) (len := 1) (d := 39) hf112 (by kernel_rfl) (by kernel_rfl) ?_)
        intro b113 w114 a115 hbb113 hx117 hg118 hf116
        have hm65s := hm65.still hg118
        have hm119 : Mem [] M w0 [.sl Kd.float (some ⟨b113, 0, none⟩) 1 ([0] : List Nat), .ow Kd.float 47 A57 c58 s56.2, .bx b39 [.slice (some ⟨b30, 0, none⟩) 2 2, .slice A57 s56.2.length c58] 42, .ow (Kd.int .i64) 3 (some ⟨b30, 0, none⟩) 2 ([x0, x1] : List Int), .bx b21 [.slice none 0 0, .slice none 0 0] 42, .sl (Kd.int .i8) A2 c2 x2] w114 := Mem.lit (kd := Kd.float) (xs := ([0] : List Nat)) hm65 hbb113 hx117 hg118 (Els.one (kd := Kd.float) (us := [.float .f64 0]) (x := 0) ⟨_, rfl, (FR.lit (by kernel_rfl) (by kernel_rfl))⟩)
        have e128 : s56.2.length = s56.2.length := rfl
        have e129 : 1 = ([0] : List Nat).length := rfl
        refine listOf hf116 rfl (by kernel_rfl) (aApp (kd := Kd.float) (base := 0) (E := 47) (A := A57) (B := (some ⟨b113, 0, none⟩)) (c := c58) (c2 := 1) (xs := s56.2) (ys := ([0] : List Nat)) (k := s56.2.length) (m := 1) (sz := 1) (d := 40) hf116 (by kernel_rfl) e128 e129 (by kernel_rfl) rfl (by kernel_rfl) (hm119.at 1 rfl) (hm119.at2 1 0 rfl rfl).2 (hm119.cpAt 0 rfl) (Nat.zero_le _) (by have := g110; omega) ?_)
        intro A120 c121 w122 a123 ho125 hg126 hr127 hf124
        have hm130 : Mem [] M w0 [.sl Kd.float (some ⟨b113, 0, none⟩) 1 ([0] : List Nat), .ow Kd.float 47 A120 c121 (s56.2 ++ ([0] : List Nat)), .bx b39 [.slice (some ⟨b30, 0, none⟩) 2 2, .slice A57 s56.2.length c58] 42, .ow (Kd.int .i64) 3 (some ⟨b30, 0, none⟩) 2 ([x0, x1] : List Int), .bx b21 [.slice none 0 0, .slice none 0 0] 42, .sl (Kd.int .i8) A2 c2 x2] w122 := hm119.setOwn 1 _ rfl rfl ho125 hg126 hr127
        refine go 1 [] [0, 1, 2, 3, 8, 9, 10, 40, 41] [(0, .int .i64 x0), (1, .int .i64 x1), (2, .slice A2 x2.length c2), (3, .int .i64 x3), (8, .pointer (some ⟨b21, 0, none⟩)), (9, .pointer (some ⟨b39, 0, none⟩)), (10, .int .i64 s56.1), (40, .slice A120 ((s56.2 ++ ([0] : List Nat)).length) c121), (41, .pointer (some ⟨b39, 1, none⟩))] [] hf124 (by kernel_rfl) trivial fun a131 hf132 => ?_
        refine listOf hf132 rfl (by kernel_rfl) (aStoreB (b := b39) (j := 1) (T := 42) (cs := [.slice (some ⟨b30, 0, none⟩) 2 2, .slice A57 s56.2.length c58]) (us := [.slice A120 ((s56.2 ++ ([0] : List Nat)).length) c121]) (cs' := [.slice (some ⟨b30, 0, none⟩) 2 2, .slice A120 ((s56.2 ++ ([0] : List Nat)).length) c121]) hf132 (by kernel_rfl) (hm130.bxAt 2 rfl) (by kernel_rfl) (by kernel_rfl) (by kernel_rfl) ?_)
        intro w133 hx134 hg135
        have hm136 : Mem [] M w0 [.sl Kd.float (some ⟨b113, 0, none⟩) 1 ([0] : List Nat), .ow Kd.float 47 A120 c121 (s56.2 ++ ([0] : List Nat)), .bx b39 [.slice (some ⟨b30, 0, none⟩) 2 2, .slice A120 ((s56.2 ++ ([0] : List Nat)).length) c121] 42, .ow (Kd.int .i64) 3 (some ⟨b30, 0, none⟩) 2 ([x0, x1] : List Int), .bx b21 [.slice none 0 0, .slice none 0 0] 42, .sl (Kd.int .i8) A2 c2 x2] w133 := hm130.setBox 2 _ rfl rfl hx134 hg135
        refine endL rfl ?_
        have hm137 : Mem [] M w0 [.ow Kd.float 47 A120 c121 (s56.2 ++ ([0] : List Nat)), .bx b39 [.slice (some ⟨b30, 0, none⟩) 2 2, .slice A120 ((s56.2 ++ ([0] : List Nat)).length) c121] 42, .ow (Kd.int .i64) 3 (some ⟨b30, 0, none⟩) 2 ([x0, x1] : List Int), .bx b21 [.slice none 0 0, .slice none 0 0] 42, .sl (Kd.int .i8) A2 c2 x2] w133 := hm136.sel [1, 2, 3, 4, 5] _ rfl (by kernel_rfl)
        refine blkN ?_
        refine thenN ?_
        refine reg [] [0, 1, 2, 3, 8, 9, 10] [(0, .int .i64 x0), (1, .int .i64 x1), (2, .slice A2 x2.length c2), (3, .int .i64 x3), (8, .pointer (some ⟨b21, 0, none⟩)), (9, .pointer (some ⟨b39, 0, none⟩)), (10, .int .i64 (w64 (s56.1 + 1)))] [] hf132 (by kernel_rfl) trivial fun a138 hf139 => ?_
        exact ⟨((w64 (s56.1 + 1)), (s56.2 ++ ([0] : List Nat))), H1, A120, c121, hf139.sel (l := [0, 1, 2, 3, 8, 9, 10]) (by kernel_rfl), hm137.sel [0, 1, 2, 3, 4] _ rfl (by kernel_rfl)⟩
    · refine reg [.bool false] [0, 1, 2, 3, 8, 9, 10, 20] [(0, .int .i64 x0), (1, .int .i64 x1), (2, .slice A2 x2.length c2), (3, .int .i64 x3), (8, .pointer (some ⟨b21, 0, none⟩)), (9, .pointer (some ⟨b39, 0, none⟩)), (10, .int .i64 s56.1), (20, .bool false)] [.is (decide (s56.1 < (w64 (x0 * x1))) = false)] hf63 (by kernel_rfl) ⟨(decide_eq_false c66), trivial⟩ fun a140 hf141 => ?_
      refine thenN ?_
      refine condF hf141 (by kernel_rfl) ?_
      refine wp_exit ?_
      refine thenE ?_
      refine thenE ?_
      obtain rfl := Option.some.inj H1
      exact .inl ⟨rfl, A57, c58, hf141.sel (l := [0, 1, 2, 3, 8, 9, 10]) (by kernel_rfl), hm65.sel [0, 1, 2, 3, 4] _ rfl (by kernel_rfl)⟩
  rintro a142 w143 ⟨A57, c58, hf144, hm145⟩
  refine thenN ?_
  refine wp_seq ?_
  refine inReg ?_
  refine go 1 [.agg #[.slice (some ⟨b30, 0, none⟩) 2 2, .slice A57 r59.2.length c58]] [8, 42] [(8, .pointer (some ⟨b21, 0, none⟩)), (42, .agg #[.slice (some ⟨b30, 0, none⟩) 2 2, .slice A57 r59.2.length c58])] [.cell ⟨b39, 0, none⟩ (.slice (some ⟨b30, 0, none⟩) 2 2), .cell ⟨b39, 1, none⟩ (.slice A57 r59.2.length c58)] hf144 (by kernel_rfl) ⟨(hm145.cell 1 rfl rfl), (hm145.cell 1 rfl rfl), trivial⟩ fun a146 hf147 => ?_
  refine listOf hf147 rfl (by kernel_rfl) (aStoreB (b := b21) (j := 0) (T := 42) (cs := [.slice none 0 0, .slice none 0 0]) (us := [.slice (some ⟨b30, 0, none⟩) 2 2, .slice A57 r59.2.length c58]) (cs' := [.slice (some ⟨b30, 0, none⟩) 2 2, .slice A57 r59.2.length c58]) hf147 (by kernel_rfl) (hm145.bxAt 3 rfl) (by kernel_rfl) (by kernel_rfl) (by kernel_rfl) ?_)
  intro w148 hx149 hg150
  have hm151 : Mem [] M w0 [.ow Kd.float 47 A57 c58 r59.2, .bx b39 [.slice (some ⟨b30, 0, none⟩) 2 2, .slice A57 r59.2.length c58] 42, .ow (Kd.int .i64) 3 (some ⟨b30, 0, none⟩) 2 ([x0, x1] : List Int), .bx b21 [.slice (some ⟨b30, 0, none⟩) 2 2, .slice A57 r59.2.length c58] 42, .sl (Kd.int .i8) A2 c2 x2] w148 := hm145.setBox 3 _ rfl rfl hx149 hg150
  refine endL rfl ?_
  have hm152 : Mem [] M w0 [.ow Kd.float 47 A57 c58 r59.2, .ow (Kd.int .i64) 3 (some ⟨b30, 0, none⟩) 2 ([x0, x1] : List Int), .bx b21 [.slice (some ⟨b30, 0, none⟩) 2 2, .slice A57 r59.2.length c58] 42] w148 := hm151.sel [0, 2, 3] _ rfl (by kernel_rfl)
  refine thenN ?_
  refine wp_ret ?_
  have hm153 : Mem [] M w0 [.ow (Kd.int .i64) 3 (some ⟨b30, 0, none⟩) 2 ([x0, x1] : List Int), .ow Kd.float 47 A57 c58 r59.2] w148 := hm152.sel [1, 0] _ rfl (by kernel_rfl)
  obtain rfl := Option.some.inj H0
  refine ret [.agg #[.slice (some ⟨b30, 0, none⟩) 2 2, .slice A57 r59.2.length c58]] [.agg #[.slice (some ⟨b30, 0, none⟩) 2 2, .slice A57 r59.2.length c58]] [.cell ⟨b21, 0, none⟩ (.slice (some ⟨b30, 0, none⟩) 2 2), .cell ⟨b21, 1, none⟩ (.slice A57 r59.2.length c58)] hf147 (by kernel_rfl) ⟨(hm152.cell 2 rfl rfl), (hm152.cell 2 rfl rfl), trivial⟩ ?_
  exact ⟨_, rfl, (some ⟨b30, 0, none⟩), 2, A57, c58, rfl, hm153⟩
end Go.Proofs.Ytkcgiolledmbnaa
