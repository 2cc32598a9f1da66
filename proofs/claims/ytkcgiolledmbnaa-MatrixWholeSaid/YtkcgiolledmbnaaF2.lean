/- Printed by gen.py. -/
import Derived.Test.YtkcgiolledmbnaaF0
import Derived.Test.YtkcgiolledmbnaaF1
namespace Go.Proofs.Ytkcgiolledmbnaa
open Go Go.RowKit
set_option linter.unusedSimpArgs false
set_option linter.unusedVariables false
set_option linter.unnecessarySimpa false
/-! ### backstitch/matrix.Mul -/
noncomputable def matrix_Mul.l2 (x0 : Tensor) (s185 : (Int × (List Nat) × (List Nat))) (x1 : Tensor) (s199 : (Int × (List Nat) × (List Nat))) (s213 : (Int × (List Nat))) : Step (Int × (List Nat)) (Int × (List Nat)) :=
  if s213.1 < (rd x0.Shape 1) then (if 0 ≤ (w64 ((w64 (s185.1 * (rd x0.Shape 1))) + s213.1)) ∧ (w64 ((w64 (s185.1 * (rd x0.Shape 1))) + s213.1)) < (x0.Data.length : Int) then (if 0 ≤ (w64 ((w64 (s213.1 * (rd x1.Shape 1))) + s199.1)) ∧ (w64 ((w64 (s213.1 * (rd x1.Shape 1))) + s199.1)) < (x1.Data.length : Int) then (bindS (real_Real_Times.f (rd x0.Data (w64 ((w64 (s185.1 * (rd x0.Shape 1))) + s213.1))) (rd x1.Data (w64 ((w64 (s213.1 * (rd x1.Shape 1))) + s199.1)))) fun r227 =>
  if 0 ≤ s213.1 ∧ s213.1 < (s213.2.length : Int) then (.next ((w64 (s213.1 + 1)), (put s213.2 s213.1 r227)))
  else .bad)
  else .bad)
  else .bad)
  else (.done (s213.1, s213.2))
noncomputable def matrix_Mul.l1 (x1 : Tensor) (x0 : Tensor) (s185 : (Int × (List Nat) × (List Nat))) (s199 : (Int × (List Nat) × (List Nat))) : Step (Int × (List Nat) × (List Nat)) (Int × (List Nat) × (List Nat)) :=
  if s199.1 < (rd x1.Shape 1) then (bindS (loop (matrix_Mul.l2 x0 s185 x1 s199) (0, s199.2.1)) fun r214 =>
  bindS (real_Row.f r214.2) fun r302 =>
  if 0 ≤ (w64 ((w64 (s185.1 * (rd x1.Shape 1))) + s199.1)) ∧ (w64 ((w64 (s185.1 * (rd x1.Shape 1))) + s199.1)) < (s199.2.2.length : Int) then (.next ((w64 (s199.1 + 1)), r214.2, (put s199.2.2 (w64 ((w64 (s185.1 * (rd x1.Shape 1))) + s199.1)) r302)))
  else .bad)
  else (.done (s199.1, s199.2.1, s199.2.2))
noncomputable def matrix_Mul.l0 (x0 : Tensor) (x1 : Tensor) (s185 : (Int × (List Nat) × (List Nat))) : Step (Int × (List Nat) × (List Nat)) (Int × (List Nat) × (List Nat)) :=
  if s185.1 < (rd x0.Shape 0) then (bindS (loop (matrix_Mul.l1 x1 x0 s185) (0, s185.2.1, s185.2.2)) fun r200 =>
  .next ((w64 (s185.1 + 1)), r200.2.1, r200.2.2))
  else (.done (s185.1, s185.2.1, s185.2.2))
noncomputable def matrix_Mul.f (x0 : Tensor) (x1 : Tensor) : Option (Tensor × Int) :=
  (matrix_flat.f x0).bind fun r44 =>
  if r44 = true then ((matrix_flat.f x1).bind fun r46 =>
  if r46 = true then (if (0 : Int) ≤ 1 ∧ 1 < (x0.Shape.length : Int) then (if (0 : Int) ≤ 0 ∧ 0 < (x1.Shape.length : Int) then (if (rd x0.Shape 1) = (rd x1.Shape 0) then (if (0 : Int) ≤ 0 ∧ 0 < (x0.Shape.length : Int) then (if (0 : Int) ≤ 1 ∧ 1 < (x1.Shape.length : Int) then ((shape_Size.f ([(rd x0.Shape 0), (rd x1.Shape 1)] : List Int)).bind fun r128 =>
  if r128.2 = 0 then ((tensor_New.f ([(rd x0.Shape 0), (rd x1.Shape 1)] : List Int) 0).bind fun r141 =>
  if 0 ≤ (rd x0.Shape 1) ∧ (rd x0.Shape 1) ≤ 1099511627776 then ((loop (matrix_Mul.l0 x0 x1) (0, (List.replicate ((rd x0.Shape 1)).toNat (0 : Nat)), r141.1.Data)).bind fun r186 =>
  some ((⟨r141.1.Shape, r186.2.2⟩ : Tensor), 0))
  else none)
  else (some ((⟨([] : (List Int)), ([] : (List Nat))⟩ : Tensor), r128.2)))
  else none)
  else none)
  else (some ((⟨([] : (List Int)), ([] : (List Nat))⟩ : Tensor), 2)))
  else none)
  else none)
  else (some ((⟨([] : (List Int)), ([] : (List Nat))⟩ : Tensor), 2)))
  else (some ((⟨([] : (List Int)), ([] : (List Nat))⟩ : Tensor), 2))
set_option maxRecDepth 100000 in
set_option maxHeartbeats 4000000 in
theorem matrix_Mul.calls (M : List (Option Nat)) (w0 : World) (x0 : Tensor) (A0_0 : Option Addr) (n0_0 c0_0 : Nat) (e0_0 : n0_0 = x0.Shape.length) (A0_1 : Option Addr) (n0_1 c0_1 : Nat) (e0_1 : n0_1 = x0.Data.length) (x1 : Tensor) (A1_0 : Option Addr) (n1_0 c1_0 : Nat) (e1_0 : n1_0 = x1.Shape.length) (A1_1 : Option Addr) (n1_1 c1_1 : Nat) (e1_1 : n1_1 = x1.Data.length) (hm0 : Mem [] M w0 [.sl (Kd.int .i64) A0_0 c0_0 x0.Shape, .sl Kd.float A0_1 c0_1 x0.Data, .sl (Kd.int .i64) A1_0 c1_0 x1.Shape, .sl Kd.float A1_1 c1_1 x1.Data] w0) (r : (Tensor × Int)) (H0 : matrix_Mul.f x0 x1 = some r) :
    Calls Try.prog 34 [.agg #[.slice A0_0 n0_0 c0_0, .slice A0_1 n0_1 c0_1], .agg #[.slice A1_0 n1_0 c1_0, .slice A1_1 n1_1 c1_1]].toArray w0 (fun x w' => ∃ v, x = .returned v ∧ ∃ Ar0_0 cr0_0 Ar0_1 cr0_1, v = .tuple #[.agg #[.slice Ar0_0 r.1.Shape.length cr0_0, .slice Ar0_1 r.1.Data.length cr0_1], .int .i64 r.2] ∧ Mem [] M w0 [.ow (Kd.int .i64) 3 Ar0_0 cr0_0 r.1.Shape, .ow Kd.float 47 Ar0_1 cr0_1 r.1.Data] w') := by
  subst e0_0
  subst e0_1
  subst e1_0
  subst e1_1
  unfold matrix_Mul.f at H0
  refine enter (n := 117) Try.func34 rfl rfl (by kernel_rfl) fun a0 (hf0 : Fr 117 a0 [(0, .agg #[.slice A0_0 x0.Shape.length c0_0, .slice A0_1 x0.Data.length c0_1]), (1, .agg #[.slice A1_0 x1.Shape.length c1_0, .slice A1_1 x1.Data.length c1_1])]) => ?_
  refine wp_seq ?_
  refine inReg ?_
  refine listOf hf0 rfl (by kernel_rfl) (aNew (cs := [.slice A0_0 x0.Shape.length c0_0, .slice A0_1 x0.Data.length c0_1]) (T := 42) (d := 2) hf0 (by kernel_rfl) (by kernel_rfl) ?_)
  intro b21 w22 a23 hbb21 hx25 hg26 hf24
  have hm27 := hm0.box hbb21 hx25 hg26
  refine listOf hf24 rfl (by kernel_rfl) (aNew (cs := [.slice A1_0 x1.Shape.length c1_0, .slice A1_1 x1.Data.length c1_1]) (T := 42) (d := 3) hf24 (by kernel_rfl) (by kernel_rfl) ?_)
  intro b28 w29 a30 hbb28 hx32 hg33 hf31
  have hm34 := hm27.box hbb28 hx32 hg33
  refine listOf hf31 rfl (by kernel_rfl) (aNew (cs := [.slice none 0 0, .slice none 0 0]) (T := 42) (d := 4) hf31 (by kernel_rfl) (by kernel_rfl) ?_)
  intro b35 w36 a37 hbb35 hx39 hg40 hf38
  have hm41 := hm34.box hbb35 hx39 hg40
  refine go 1 [] [2, 3, 4] [(2, .pointer (some ⟨b21, 0, none⟩)), (3, .pointer (some ⟨b28, 0, none⟩)), (4, .pointer (some ⟨b35, 0, none⟩))] [] hf38 (by kernel_rfl) trivial fun a42 hf43 => ?_
  refine endL rfl ?_
  refine thenN ?_
  refine wp_seq ?_
  refine wp_seq ?_
  obtain ⟨r44, hr44, H0⟩ := ob_split H0
  rcases ifb_split H0 with ⟨c45, H0⟩ | ⟨c45, H0⟩
  · obtain ⟨r46, hr46, H0⟩ := ob_split H0
    rcases ifb_split H0 with ⟨c47, H0⟩ | ⟨c47, H0⟩
    · obtain ⟨g48, H0⟩ := if_guard H0
      obtain ⟨g49, H0⟩ := if_guard H0
      rcases if_split H0 with ⟨c50, H0⟩ | ⟨c50, H0⟩
      · refine midReg (fun (a : Act) (w : World) => Fr 117 a [(2, .pointer (some ⟨b21, 0, none⟩)), (3, .pointer (some ⟨b28, 0, none⟩)), (4, .pointer (some ⟨b35, 0, none⟩)), (36, .bool false)] ∧ Mem [] M w0 [.bx b35 [.slice none 0 0, .slice none 0 0] 42, .bx b28 [.slice A1_0 x1.Shape.length c1_0, .slice A1_1 x1.Data.length c1_1] 42, .bx b21 [.slice A0_0 x0.Shape.length c0_0, .slice A0_1 x0.Data.length c0_1] 42, .sl (Kd.int .i64) A0_0 c0_0 x0.Shape, .sl Kd.float A0_1 c0_1 x0.Data, .sl (Kd.int .i64) A1_0 c1_0 x1.Shape, .sl Kd.float A1_1 c1_1 x1.Data] w) ?_ ?_
        · refine anyG [] (by kernel_rfl) fun w63 hg65 => ?_
          have hm66 := hm41.still hg65
          refine quiet0 [0] [.agg #[.slice A0_0 x0.Shape.length c0_0, .slice A0_1 x0.Data.length c0_1]] [2, 3, 4, 18] #[true, false, false, false, false, false, false, false, false, false, false, false, false, false, false, false, false, false, false] [(2, .pointer (some ⟨b21, 0, none⟩)), (3, .pointer (some ⟨b28, 0, none⟩)), (4, .pointer (some ⟨b35, 0, none⟩)), (18, .agg #[.slice A0_0 x0.Shape.length c0_0, .slice A0_1 x0.Data.length c0_1])] [.cell ⟨b21, 0, none⟩ (.slice A0_0 x0.Shape.length c0_0), .cell ⟨b21, 1, none⟩ (.slice A0_1 x0.Data.length c0_1)] 18 rfl (by kernel_rfl) (fun _ _ _ _ _ h => nomatch h.1) hf43 (by kernel_rfl) ⟨(hm66.cell 2 rfl rfl), (hm66.cell 2 rfl rfl), trivial⟩ fun a85 hf86 => ?_
          refine all1 1 (by kernel_rfl) ?_
          refine opOf hf86 rfl (by kernel_rfl) (aCall (fid := 53) (args := [.agg #[.slice A0_0 x0.Shape.length c0_0, .slice A0_1 x0.Data.length c0_1]]) (d := 19) hf86 (by kernel_rfl) (by kernel_rfl) callable53 (matrix_flat.calls _ _ x0 A0_0 x0.Shape.length c0_0 rfl A0_1 x0.Data.length c0_1 rfl (hm66.give [3, 4] [.sl (Kd.int .i64) A0_0 c0_0 x0.Shape, .sl Kd.float A0_1 c0_1 x0.Data] rfl rfl) r44 hr44) ?_)
          rintro _ w87 a88 ⟨rfl, hk90⟩ hf89
          refine ⟨.inr (Gr.still hk90.cum.none), ?_⟩
          have hm91 := hm66.still hk90.cum.none
          rw [c45] at hf89
          refine quiet0 [2, 3, 4] [.agg #[.slice A1_0 x1.Shape.length c1_0, .slice A1_1 x1.Data.length c1_1]] [2, 3, 4, 21, 22] #[true, true, true, true, true, false, false, false, false, false, false, false, false, false, false, false, false, false, false] [(2, .pointer (some ⟨b21, 0, none⟩)), (3, .pointer (some ⟨b28, 0, none⟩)), (4, .pointer (some ⟨b35, 0, none⟩)), (21, .bool false), (22, .agg #[.slice A1_0 x1.Shape.length c1_0, .slice A1_1 x1.Data.length c1_1])] [.cell ⟨b28, 0, none⟩ (.slice A1_0 x1.Shape.length c1_0), .cell ⟨b28, 1, none⟩ (.slice A1_1 x1.Data.length c1_1)] 14 rfl (by kernel_rfl) (fun _ _ _ _ _ h => nomatch h.1) hf89 (by kernel_rfl) ⟨(hm91.cell 1 rfl rfl), (hm91.cell 1 rfl rfl), trivial⟩ fun a92 hf93 => ?_
          refine all1 5 (by kernel_rfl) ?_
          refine opOf hf93 rfl (by kernel_rfl) (aCall (fid := 53) (args := [.agg #[.slice A1_0 x1.Shape.length c1_0, .slice A1_1 x1.Data.length c1_1]]) (d := 23) hf93 (by kernel_rfl) (by kernel_rfl) callable53 (matrix_flat.calls _ _ x1 A1_0 x1.Shape.length c1_0 rfl A1_1 x1.Data.length c1_1 rfl (hm91.give [5, 6] [.sl (Kd.int .i64) A1_0 c1_0 x1.Shape, .sl Kd.float A1_1 c1_1 x1.Data] rfl rfl) r46 hr46) ?_)
          rintro _ w94 a95 ⟨rfl, hk97⟩ hf96
          refine ⟨.inr (Gr.still hk97.cum.none), ?_⟩
          have hm98 := hm91.still hk97.cum.none
          rw [c47] at hf96
          have q99 := (hm98.slAt 3 rfl).int 1 g48.1 g48.2
          have q100 := (hm98.slAt 5 rfl).int 0 g49.1 g49.2
          refine quiet0 [6, 7, 8, 9, 10, 11, 12, 13, 14, 15, 16, 17, 18] [.slice A0_0 x0.Shape.length c0_0, .int .i64 (rd x0.Shape 1), .slice A1_0 x1.Shape.length c1_0, .int .i64 (rd x1.Shape 0), .bool false] [2, 3, 4, 36] #[true, true, true, true, true, true, true, true, true, true, true, true, true, true, true, true, true, true, true] [(2, .pointer (some ⟨b21, 0, none⟩)), (3, .pointer (some ⟨b28, 0, none⟩)), (4, .pointer (some ⟨b35, 0, none⟩)), (36, .bool false)] [.cell ⟨b21, 0, none⟩ (.slice A0_0 x0.Shape.length c0_0), .is (Option.isSome A0_0 = true), .is ((0 : Int) ≤ 1 ∧ 1 < (x0.Shape.length : Int)), .cell ((ad A0_0).add ((1 : Int).toNat * 1)) (.int .i64 (rd x0.Shape 1)), .cell ⟨b28, 0, none⟩ (.slice A1_0 x1.Shape.length c1_0), .is (Option.isSome A1_0 = true), .is ((0 : Int) ≤ 0 ∧ 0 < (x1.Shape.length : Int)), .cell ((ad A1_0).add ((0 : Int).toNat * 1)) (.int .i64 (rd x1.Shape 0)), .is ((((rd x0.Shape 1) : Int) != (rd x1.Shape 0)) = false)] 0 rfl (by kernel_rfl) (fun _ _ _ _ _ h => nomatch h.1) hf96 (by kernel_rfl) ⟨(hm98.cell 2 rfl rfl), q99.1, g48, q99.2, (hm98.cell 1 rfl rfl), q100.1, g49, q100.2, (neF c50), trivial⟩ fun a101 hf102 => ?_
          refine allDone (by kernel_rfl) ⟨rfl, hf102.sel (l := [2, 3, 4, 36]) (by kernel_rfl), hm98.sel [0, 1, 2, 3, 4, 5, 6] _ rfl (by kernel_rfl)⟩
        rintro a103 w104 ⟨hf105, hm106⟩
        refine thenN ?_
        refine condF hf105 (by kernel_rfl) ?_
        refine wp_skip ?_
        refine thenN ?_
        refine wp_seq ?_
        obtain ⟨g107, H0⟩ := if_guard H0
        obtain ⟨g108, H0⟩ := if_guard H0
        have q109 := (hm106.slAt 3 rfl).int 0 g107.1 g107.2
        have q110 := (hm106.slAt 3 rfl).int 1 g48.1 g48.2
        have q111 := (hm106.slAt 5 rfl).int 1 g108.1 g108.2
        refine regQ [.slice A0_0 x0.Shape.length c0_0, .int .i64 (rd x0.Shape 0), .slice A0_0 x0.Shape.length c0_0, .int .i64 (rd x0.Shape 1), .slice A1_0 x1.Shape.length c1_0, .int .i64 (rd x1.Shape 1)] [2, 3, 4, 6, 7, 8] [(2, .pointer (some ⟨b21, 0, none⟩)), (3, .pointer (some ⟨b28, 0, none⟩)), (4, .pointer (some ⟨b35, 0, none⟩)), (6, .int .i64 (rd x0.Shape 0)), (7, .int .i64 (rd x0.Shape 1)), (8, .int .i64 (rd x1.Shape 1))] [.cell ⟨b21, 0, none⟩ (.slice A0_0 x0.Shape.length c0_0), .is (Option.isSome A0_0 = true), .is ((0 : Int) ≤ 0 ∧ 0 < (x0.Shape.length : Int)), .cell ((ad A0_0).add ((0 : Int).toNat * 1)) (.int .i64 (rd x0.Shape 0)), .cell ⟨b21, 0, none⟩ (.slice A0_0 x0.Shape.length c0_0), .is (Option.isSome A0_0 = true), .is ((0 : Int) ≤ 1 ∧ 1 < (x0.Shape.length : Int)), .cell ((ad A0_0).add ((1 : Int).toNat * 1)) (.int .i64 (rd x0.Shape 1)), .cell ⟨b28, 0, none⟩ (.slice A1_0 x1.Shape.length c1_0), .is (Option.isSome A1_0 = true), .is ((0 : Int) ≤ 1 ∧ 1 < (x1.Shape.length : Int)), .cell ((ad A1_0).add ((1 : Int).toNat * 1)) (.int .i64 (rd x1.Shape 1))] (by kernel_rfl) (by kernel_rfl) hf105 (by kernel_rfl) ⟨(hm106.cell 2 rfl rfl), q109.1, g107, q109.2, (hm106.cell 2 rfl rfl), q110.1, g48, q110.2, (hm106.cell 1 rfl rfl), q111.1, g108, q111.2, trivial⟩ fun a112 w114 hf113 hg115 => ?_
        have hm116 := hm106.still hg115
        refine thenN ?_
        refine wp_seq ?_
        refine inReg ?_
        refine go 2 [] [2, 3, 4, 6, 7, 8, 50, 51] [(2, .pointer (some ⟨b21, 0, none⟩)), (3, .pointer (some ⟨b28, 0, none⟩)), (4, .pointer (some ⟨b35, 0, none⟩)), (6, .int .i64 (rd x0.Shape 0)), (7, .int .i64 (rd x0.Shape 1)), (8, .int .i64 (rd x1.Shape 1)), (50, .int .i64 (rd x0.Shape 0)), (51, .int .i64 (rd x1.Shape 1))] [] hf113 (by kernel_rfl) trivial fun a117 hf118 => ?_
        refine listOf hf118 rfl (by kernel_rfl) (aLit (cs := [.int .i64 (rd x0.Shape 0), .int .i64 (rd x1.Shape 1)]) (E := 3) (len := 2) (d := 52) hf118 (by kernel_rfl) (by kernel_rfl) ?_)
        intro b119 w120 a121 hbb119 hx123 hg124 hf122
        have hm116s := hm116.still hg124
        have hm125 : Mem [] M w0 [.sl (Kd.int .i64) (some ⟨b119, 0, none⟩) 2 ([(rd x0.Shape 0), (rd x1.Shape 1)] : List Int), .bx b35 [.slice none 0 0, .slice none 0 0] 42, .bx b28 [.slice A1_0 x1.Shape.length c1_0, .slice A1_1 x1.Data.length c1_1] 42, .bx b21 [.slice A0_0 x0.Shape.length c0_0, .slice A0_1 x0.Data.length c0_1] 42, .sl (Kd.int .i64) A0_0 c0_0 x0.Shape, .sl Kd.float A0_1 c0_1 x0.Data, .sl (Kd.int .i64) A1_0 c1_0 x1.Shape, .sl Kd.float A1_1 c1_1 x1.Data] w120 := Mem.lit (kd := (Kd.int .i64)) (xs := ([(rd x0.Shape 0), (rd x1.Shape 1)] : List Int)) hm116 hbb119 hx123 hg124 (Els.append (Els.one (kd := (Kd.int .i64)) (us := [.int .i64 (rd x0.Shape 0)]) (x := (rd x0.Shape 0)) rfl) (Els.one (kd := (Kd.int .i64)) (us := [.int .i64 (rd x1.Shape 1)]) (x := (rd x1.Shape 1)) rfl))
        refine go 1 [] [2, 3, 4, 6, 7, 8, 9] [(2, .pointer (some ⟨b21, 0, none⟩)), (3, .pointer (some ⟨b28, 0, none⟩)), (4, .pointer (some ⟨b35, 0, none⟩)), (6, .int .i64 (rd x0.Shape 0)), (7, .int .i64 (rd x0.Shape 1)), (8, .int .i64 (rd x1.Shape 1)), (9, .slice (some ⟨b119, 0, none⟩) 2 2)] [] hf122 (by kernel_rfl) trivial fun a126 hf127 => ?_
        refine endL rfl ?_
        refine thenN ?_
        refine wp_seq ?_
        refine wp_seq ?_
        obtain ⟨r128, hr128, H0⟩ := ob_split H0
        refine inReg ?_
        refine go 1 [] [2, 3, 4, 6, 7, 8, 9, 54] [(2, .pointer (some ⟨b21, 0, none⟩)), (3, .pointer (some ⟨b28, 0, none⟩)), (4, .pointer (some ⟨b35, 0, none⟩)), (6, .int .i64 (rd x0.Shape 0)), (7, .int .i64 (rd x0.Shape 1)), (8, .int .i64 (rd x1.Shape 1)), (9, .slice (some ⟨b119, 0, none⟩) 2 2), (54, .slice (some ⟨b119, 0, none⟩) 2 2)] [] hf127 (by kernel_rfl) trivial fun a129 hf130 => ?_
        refine listOf hf130 rfl (by kernel_rfl) (aCall (fid := 21) (args := [.slice (some ⟨b119, 0, none⟩) 2 2]) (d := 55) hf130 (by kernel_rfl) (by kernel_rfl) callable21 (shape_Size.calls _ _ ([(rd x0.Shape 0), (rd x1.Shape 1)] : List Int) (some ⟨b119, 0, none⟩) 2 2 rfl (hm125.give [0] [.sl (Kd.int .i64) (some ⟨b119, 0, none⟩) 2 ([(rd x0.Shape 0), (rd x1.Shape 1)] : List Int)] rfl rfl) r128 hr128) ?_)
        rintro _ w131 a132 ⟨rfl, hk134⟩ hf133
        have hm135 := hm125.still hk134.cum.none
        refine go 5 [] [2, 3, 4, 6, 7, 8, 9, 11] [(2, .pointer (some ⟨b21, 0, none⟩)), (3, .pointer (some ⟨b28, 0, none⟩)), (4, .pointer (some ⟨b35, 0, none⟩)), (6, .int .i64 (rd x0.Shape 0)), (7, .int .i64 (rd x0.Shape 1)), (8, .int .i64 (rd x1.Shape 1)), (9, .slice (some ⟨b119, 0, none⟩) 2 2), (11, .int .i64 r128.2)] [] hf133 (by kernel_rfl) trivial fun a136 hf137 => ?_
        refine endL rfl ?_
        refine thenN ?_
        refine wp_seq ?_
        rcases if_split H0 with ⟨c138, H0⟩ | ⟨c138, H0⟩
        · refine reg [.bool false] [2, 3, 4, 6, 7, 8, 9, 11, 59] [(2, .pointer (some ⟨b21, 0, none⟩)), (3, .pointer (some ⟨b28, 0, none⟩)), (4, .pointer (some ⟨b35, 0, none⟩)), (6, .int .i64 (rd x0.Shape 0)), (7, .int .i64 (rd x0.Shape 1)), (8, .int .i64 (rd x1.Shape 1)), (9, .slice (some ⟨b119, 0, none⟩) 2 2), (11, .int .i64 r128.2), (59, .bool false)] [.is (((r128.2 : Int) != 0) = false)] hf137 (by kernel_rfl) ⟨(neF c138), trivial⟩ fun a139 hf140 => ?_
          refine thenN ?_
          refine condF hf140 (by kernel_rfl) ?_
          refine wp_skip ?_
          refine thenN ?_
          refine wp_seq ?_
          obtain ⟨r141, hr141, H0⟩ := ob_split H0
          refine inReg ?_
          refine go 1 [] [2, 3, 4, 6, 7, 8, 63] [(2, .pointer (some ⟨b21, 0, none⟩)), (3, .pointer (some ⟨b28, 0, none⟩)), (4, .pointer (some ⟨b35, 0, none⟩)), (6, .int .i64 (rd x0.Shape 0)), (7, .int .i64 (rd x0.Shape 1)), (8, .int .i64 (rd x1.Shape 1)), (63, .slice (some ⟨b119, 0, none⟩) 2 2)] [] hf140 (by kernel_rfl) trivial fun a142 hf143 => ?_
          refine listOf hf143 rfl (by kernel_rfl) (aCall (fid := 54) (args := [.slice (some ⟨b119, 0, none⟩) 2 2, .float .f64 0]) (d := 64) hf143 (by kernel_rfl) (by kernel_rfl) callable54 (tensor_New.calls _ _ ([(rd x0.Shape 0), (rd x1.Shape 1)] : List Int) (some ⟨b119, 0, none⟩) 2 2 rfl 0 0 ((FR.lit (by kernel_rfl) (by kernel_rfl))) (hm135.give [0] [.sl (Kd.int .i64) (some ⟨b119, 0, none⟩) 2 ([(rd x0.Shape 0), (rd x1.Shape 1)] : List Int)] rfl rfl) r141 hr141) ?_)
          rintro _ w148 a149 ⟨A144, c145, A146, c147, rfl, hk151⟩ hf150
          have hm152 := hm135.back hk151
          refine go 3 [] [2, 3, 4, 6, 7, 8, 65, 66] [(2, .pointer (some ⟨b21, 0, none⟩)), (3, .pointer (some ⟨b28, 0, none⟩)), (4, .pointer (some ⟨b35, 0, none⟩)), (6, .int .i64 (rd x0.Shape 0)), (7, .int .i64 (rd x0.Shape 1)), (8, .int .i64 (rd x1.Shape 1)), (65, .agg #[.slice A144 r141.1.Shape.length c145, .slice A146 r141.1.Data.length c147]), (66, .int .i64 r141.2)] [] hf150 (by kernel_rfl) trivial fun a153 hf154 => ?_
          refine listOf hf154 rfl (by kernel_rfl) (aNew (cs := [.slice none 0 0, .slice none 0 0]) (T := 42) (d := 12) hf154 (by kernel_rfl) (by kernel_rfl) ?_)
          intro b155 w156 a157 hbb155 hx159 hg160 hf158
          have hm161 := hm152.box hbb155 hx159 hg160
          refine listOf hf158 rfl (by kernel_rfl) (aStoreB (b := b155) (j := 0) (T := 42) (cs := [.slice none 0 0, .slice none 0 0]) (us := [.slice A144 r141.1.Shape.length c145, .slice A146 r141.1.Data.length c147]) (cs' := [.slice A144 r141.1.Shape.length c145, .slice A146 r141.1.Data.length c147]) hf158 (by kernel_rfl) (hm161.bxAt 0 rfl) (by kernel_rfl) (by kernel_rfl) (by kernel_rfl) ?_)
          intro w162 hx163 hg164
          have hm165 := hm161.setBox 0 _ rfl rfl hx163 hg164
          refine go 1 [] [2, 3, 4, 6, 7, 8, 12] [(2, .pointer (some ⟨b21, 0, none⟩)), (3, .pointer (some ⟨b28, 0, none⟩)), (4, .pointer (some ⟨b35, 0, none⟩)), (6, .int .i64 (rd x0.Shape 0)), (7, .int .i64 (rd x0.Shape 1)), (8, .int .i64 (rd x1.Shape 1)), (12, .pointer (some ⟨b155, 0, none⟩))] [] hf158 (by kernel_rfl) trivial fun a166 hf167 => ?_
          refine endL rfl ?_
          have hm168 := hm165.sel [0, 1, 2, 4, 5, 6, 7, 8, 9, 10] _ rfl (by kernel_rfl)
          refine thenN ?_
          refine wp_seq ?_
          obtain ⟨g169, H0⟩ := if_guard H0
          refine inReg ?_
          refine go 1 [] [2, 3, 4, 6, 7, 8, 12, 67] [(2, .pointer (some ⟨b21, 0, none⟩)), (3, .pointer (some ⟨b28, 0, none⟩)), (4, .pointer (some ⟨b35, 0, none⟩)), (6, .int .i64 (rd x0.Shape 0)), (7, .int .i64 (rd x0.Shape 1)), (8, .int .i64 (rd x1.Shape 1)), (12, .pointer (some ⟨b155, 0, none⟩)), (67, .int .i64 (rd x0.Shape 1))] [] hf167 (by kernel_rfl) trivial fun a170 hf171 => ?_
          refine listOf hf171 rfl (by kernel_rfl) (aMake (kd := Kd.float) (x := 0) (E := 47) (L := (rd x0.Shape 1)) (z := [.float .f64 0]) (sz := 1) (d := 68) hf171 (by kernel_rfl) (by kernel_rfl) rfl (fun _ _ => ⟨0, rfl, FR.lit (by kernel_rfl) (by kernel_rfl)⟩) g169.1 g169.2 ?_)
          intro A172 c173 w174 a175 ho177 hb179 hg178 hf176
          have hm180 : Mem [] M w0 [.ow Kd.float 47 A172 c173 (List.replicate ((rd x0.Shape 1)).toNat (0 : Nat)), .bx b155 [.slice A144 r141.1.Shape.length c145, .slice A146 r141.1.Data.length c147] 42, .ow (Kd.int .i64) 3 A144 c145 r141.1.Shape, .ow Kd.float 47 A146 c147 r141.1.Data, .bx b35 [.slice none 0 0, .slice none 0 0] 42, .bx b28 [.slice A1_0 x1.Shape.length c1_0, .slice A1_1 x1.Data.length c1_1] 42, .bx b21 [.slice A0_0 x0.Shape.length c0_0, .slice A0_1 x0.Data.length c0_1] 42, .sl (Kd.int .i64) A0_0 c0_0 x0.Shape, .sl Kd.float A0_1 c0_1 x0.Data, .sl (Kd.int .i64) A1_0 c1_0 x1.Shape, .sl Kd.float A1_1 c1_1 x1.Data] w174 := hm168.own (ho177 _) hg178
          refine go 1 [] [2, 3, 4, 6, 7, 8, 12, 14] [(2, .pointer (some ⟨b21, 0, none⟩)), (3, .pointer (some ⟨b28, 0, none⟩)), (4, .pointer (some ⟨b35, 0, none⟩)), (6, .int .i64 (rd x0.Shape 0)), (7, .int .i64 (rd x0.Shape 1)), (8, .int .i64 (rd x1.Shape 1)), (12, .pointer (some ⟨b155, 0, none⟩)), (14, .slice A172 ((List.replicate ((rd x0.Shape 1)).toNat (0 : Nat)).length) c173)] [] hf176 (by kernel_rfl) trivial fun a181 hf182 => ?_
          refine endL rfl ?_
          refine thenN ?_
          refine wp_seq ?_
          refine wp_seq ?_
          refine reg [] [2, 3, 4, 7, 8, 12, 14, 69, 70] [(2, .pointer (some ⟨b21, 0, none⟩)), (3, .pointer (some ⟨b28, 0, none⟩)), (4, .pointer (some ⟨b35, 0, none⟩)), (7, .int .i64 (rd x0.Shape 1)), (8, .int .i64 (rd x1.Shape 1)), (12, .pointer (some ⟨b155, 0, none⟩)), (14, .slice A172 ((List.replicate ((rd x0.Shape 1)).toNat (0 : Nat)).length) c173), (69, .int .i64 (rd x0.Shape 0)), (70, .int .i64 0)] [] hf182 (by kernel_rfl) trivial fun a183 hf184 => ?_
          refine thenN ?_
          obtain ⟨r186, hr186, H0⟩ := ob_split H0
          refine wpBlock (Mid := fun (a : Act) (w : World) => Fr 117 a [(2, .pointer (some ⟨b21, 0, none⟩)), (3, .pointer (some ⟨b28, 0, none⟩)), (4, .pointer (some ⟨b35, 0, none⟩)), (7, .int .i64 (rd x0.Shape 1)), (8, .int .i64 (rd x1.Shape 1)), (12, .pointer (some ⟨b155, 0, none⟩)), (14, .slice A172 r186.2.1.length c173), (69, .int .i64 (rd x0.Shape 0)), (70, .int .i64 r186.1)] ∧ Mem [] M w0 [.ow Kd.float 47 A172 c173 r186.2.1, .bx b155 [.slice A144 r141.1.Shape.length c145, .slice A146 r186.2.2.length c147] 42, .ow (Kd.int .i64) 3 A144 c145 r141.1.Shape, .ow Kd.float 47 A146 c147 r186.2.2, .bx b35 [.slice none 0 0, .slice none 0 0] 42, .bx b28 [.slice A1_0 x1.Shape.length c1_0, .slice A1_1 x1.Data.length c1_1] 42, .bx b21 [.slice A0_0 x0.Shape.length c0_0, .slice A0_1 x0.Data.length c0_1] 42, .sl (Kd.int .i64) A0_0 c0_0 x0.Shape, .sl Kd.float A0_1 c0_1 x0.Data, .sl (Kd.int .i64) A1_0 c1_0 x1.Shape, .sl Kd.float A1_1 c1_1 x1.Data] w) ?_ ?_
          · refine wpLoop (matrix_Mul.l0 x0 x1) r186 (fun (s185 : (Int × (List Nat) × (List Nat))) (a : Act) (w : World) => Fr 117 a [(2, .pointer (some ⟨b21, 0, none⟩)), (3, .pointer (some ⟨b28, 0, none⟩)), (4, .pointer (some ⟨b35, 0, none⟩)), (7, .int .i64 (rd x0.Shape 1)), (8, .int .i64 (rd x1.Shape 1)), (12, .pointer (some ⟨b155, 0, none⟩)), (14, .slice A172 s185.2.1.length c173), (69, .int .i64 (rd x0.Shape 0)), (70, .int .i64 s185.1)] ∧ Mem [] M w0 [.ow Kd.float 47 A172 c173 s185.2.1, .bx b155 [.slice A144 r141.1.Shape.length c145, .slice A146 s185.2.2.length c147] 42, .ow (Kd.int .i64) 3 A144 c145 r141.1.Shape, .ow Kd.float 47 A146 c147 s185.2.2, .bx b35 [.slice none 0 0, .slice none 0 0] 42, .bx b28 [.slice A1_0 x1.Shape.length c1_0, .slice A1_1 x1.Data.length c1_1] 42, .bx b21 [.slice A0_0 x0.Shape.length c0_0, .slice A0_1 x0.Data.length c0_1] 42, .sl (Kd.int .i64) A0_0 c0_0 x0.Shape, .sl Kd.float A0_1 c0_1 x0.Data, .sl (Kd.int .i64) A1_0 c1_0 x1.Shape, .sl Kd.float A1_1 c1_1 x1.Data] w) (0, (List.replicate ((rd x0.Shape 1)).toNat (0 : Nat)), r141.1.Data) hr186 ⟨hf184.sel (l := [2, 3, 4, 7, 8, 12, 14, 69, 70]) (by kernel_rfl), hm180.sel [0, 1, 2, 3, 4, 5, 6, 7, 8, 9, 10] _ rfl (by kernel_rfl)⟩ ?_
            rintro g187 s185 a188 w189 H1 ⟨hf190, hm191⟩
            unfold matrix_Mul.l0 at H1
            refine wp_seq ?_
            rcases ifS_split H1 with ⟨c192, H1⟩ | ⟨c192, H1⟩
            · refine reg [.bool true] [2, 3, 4, 7, 8, 12, 14, 69, 70, 71] [(2, .pointer (some ⟨b21, 0, none⟩)), (3, .pointer (some ⟨b28, 0, none⟩)), (4, .pointer (some ⟨b35, 0, none⟩)), (7, .int .i64 (rd x0.Shape 1)), (8, .int .i64 (rd x1.Shape 1)), (12, .pointer (some ⟨b155, 0, none⟩)), (14, .slice A172 s185.2.1.length c173), (69, .int .i64 (rd x0.Shape 0)), (70, .int .i64 s185.1), (71, .bool true)] [.is (decide (s185.1 < (rd x0.Shape 0)) = true)] hf190 (by kernel_rfl) ⟨(decide_eq_true c192), trivial⟩ fun a193 hf194 => ?_
              refine thenN ?_
              refine wp_seq ?_
              refine condT hf194 (by kernel_rfl) ?_
              refine wp_skip ?_
              refine thenN ?_
              refine wp_seq ?_
              refine wp_block ?_
              refine wp_seq ?_
              refine reg [] [2, 3, 4, 7, 8, 12, 14, 15, 69, 70] [(2, .pointer (some ⟨b21, 0, none⟩)), (3, .pointer (some ⟨b28, 0, none⟩)), (4, .pointer (some ⟨b35, 0, none⟩)), (7, .int .i64 (rd x0.Shape 1)), (8, .int .i64 (rd x1.Shape 1)), (12, .pointer (some ⟨b155, 0, none⟩)), (14, .slice A172 s185.2.1.length c173), (15, .int .i64 s185.1), (69, .int .i64 (rd x0.Shape 0)), (70, .int .i64 s185.1)] [] hf194 (by kernel_rfl) trivial fun a195 hf196 => ?_
              refine thenN ?_
              refine wp_seq ?_
              refine reg [] [2, 3, 4, 7, 8, 12, 14, 15, 69, 70, 73, 74] [(2, .pointer (some ⟨b21, 0, none⟩)), (3, .pointer (some ⟨b28, 0, none⟩)), (4, .pointer (some ⟨b35, 0, none⟩)), (7, .int .i64 (rd x0.Shape 1)), (8, .int .i64 (rd x1.Shape 1)), (12, .pointer (some ⟨b155, 0, none⟩)), (14, .slice A172 s185.2.1.length c173), (15, .int .i64 s185.1), (69, .int .i64 (rd x0.Shape 0)), (70, .int .i64 s185.1), (73, .int .i64 (rd x1.Shape 1)), (74, .int .i64 0)] [] hf196 (by kernel_rfl) trivial fun a197 hf198 => ?_
              refine thenN ?_
              obtain ⟨r200, hr200, H1⟩ := obS_split H1
              refine wpBlock (Mid := fun (a : Act) (w : World) => Fr 117 a [(2, .pointer (some ⟨b21, 0, none⟩)), (3, .pointer (some ⟨b28, 0, none⟩)), (4, .pointer (some ⟨b35, 0, none⟩)), (7, .int .i64 (rd x0.Shape 1)), (8, .int .i64 (rd x1.Shape 1)), (12, .pointer (some ⟨b155, 0, none⟩)), (14, .slice A172 r200.2.1.length c173), (15, .int .i64 s185.1), (69, .int .i64 (rd x0.Shape 0)), (70, .int .i64 s185.1), (73, .int .i64 (rd x1.Shape 1)), (74, .int .i64 r200.1)] ∧ Mem [] M w0 [.ow Kd.float 47 A172 c173 r200.2.1, .bx b155 [.slice A144 r141.1.Shape.length c145, .slice A146 r200.2.2.length c147] 42, .ow (Kd.int .i64) 3 A144 c145 r141.1.Shape, .ow Kd.float 47 A146 c147 r200.2.2, .bx b35 [.slice none 0 0, .slice none 0 0] 42, .bx b28 [.slice A1_0 x1.Shape.length c1_0, .slice A1_1 x1.Data.length c1_1] 42, .bx b21 [.slice A0_0 x0.Shape.length c0_0, .slice A0_1 x0.Data.length c0_1] 42, .sl (Kd.int .i64) A0_0 c0_0 x0.Shape, .sl Kd.float A0_1 c0_1 x0.Data, .sl (Kd.int .i64) A1_0 c1_0 x1.Shape, .sl Kd.float A1_1 c1_1 x1.Data] w) ?_ ?_
              · refine wpLoop (matrix_Mul.l1 x1 x0 s185) r200 (fun (s199 : (Int × (List Nat) × (List Nat))) (a : Act) (w : World) => Fr 117 a [(2, .pointer (some ⟨b21, 0, none⟩)), (3, .pointer (some ⟨b28, 0, none⟩)), (4, .pointer (some ⟨b35, 0, none⟩)), (7, .int .i64 (rd x0.Shape 1)), (8, .int .i64 (rd x1.Shape 1)), (12, .pointer (some ⟨b155, 0, none⟩)), (14, .slice A172 s199.2.1.length c173), (15, .int .i64 s185.1), (69, .int .i64 (rd x0.Shape 0)), (70, .int .i64 s185.1), (73, .int .i64 (rd x1.Shape 1)), (74, .int .i64 s199.1)] ∧ Mem [] M w0 [.ow Kd.float 47 A172 c173 s199.2.1, .bx b155 [.slice A144 r141.1.Shape.length c145, .slice A146 s199.2.2.length c147] 42, .ow (Kd.int .i64) 3 A144 c145 r141.1.Shape, .ow Kd.float 47 A146 c147 s199.2.2, .bx b35 [.slice none 0 0, .slice none 0 0] 42, .bx b28 [.slice A1_0 x1.Shape.length c1_0, .slice A1_1 x1.Data.length c1_1] 42, .bx b21 [.slice A0_0 x0.Shape.length c0_0, .slice A0_1 x0.Data.length c0_1] 42, .sl (Kd.int .i64) A0_0 c0_0 x0.Shape, .sl Kd.float A0_1 c0_1 x0.Data, .sl (Kd.int .i64) A1_0 c1_0 x1.Shape, .sl Kd.float A1_1 c1_1 x1.Data] w) (0, s185.2.1, s185.2.2) hr200 ⟨hf198.sel (l := [2, 3, 4, 7, 8, 12, 14, 15, 69, 70, 73, 74]) (by kernel_rfl), hm191.sel [0, 1, 2, 3, 4, 5, 6, 7, 8, 9, 10] _ rfl (by kernel_rfl)⟩ ?_
                rintro g201 s199 a202 w203 H2 ⟨hf204, hm205⟩
                unfold matrix_Mul.l1 at H2
                refine wp_seq ?_
                rcases ifS_split H2 with ⟨c206, H2⟩ | ⟨c206, H2⟩
                · refine reg [.bool true] [2, 3, 4, 7, 8, 12, 14, 15, 69, 70, 73, 74, 75] [(2, .pointer (some ⟨b21, 0, none⟩)), (3, .pointer (some ⟨b28, 0, none⟩)), (4, .pointer (some ⟨b35, 0, none⟩)), (7, .int .i64 (rd x0.Shape 1)), (8, .int .i64 (rd x1.Shape 1)), (12, .pointer (some ⟨b155, 0, none⟩)), (14, .slice A172 s199.2.1.length c173), (15, .int .i64 s185.1), (69, .int .i64 (rd x0.Shape 0)), (70, .int .i64 s185.1), (73, .int .i64 (rd x1.Shape 1)), (74, .int .i64 s199.1), (75, .bool true)] [.is (decide (s199.1 < (rd x1.Shape 1)) = true)] hf204 (by kernel_rfl) ⟨(decide_eq_true c206), trivial⟩ fun a207 hf208 => ?_
                  refine thenN ?_
                  refine wp_seq ?_
                  refine condT hf208 (by kernel_rfl) ?_
                  refine wp_skip ?_
                  refine thenN ?_
                  refine wp_seq ?_
                  refine wp_block ?_
                  refine wp_seq ?_
                  refine reg [] [2, 3, 4, 7, 8, 12, 14, 15, 16, 69, 70, 73, 74] [(2, .pointer (some ⟨b21, 0, none⟩)), (3, .pointer (some ⟨b28, 0, none⟩)), (4, .pointer (some ⟨b35, 0, none⟩)), (7, .int .i64 (rd x0.Shape 1)), (8, .int .i64 (rd x1.Shape 1)), (12, .pointer (some ⟨b155, 0, none⟩)), (14, .slice A172 s199.2.1.length c173), (15, .int .i64 s185.1), (16, .int .i64 s199.1), (69, .int .i64 (rd x0.Shape 0)), (70, .int .i64 s185.1), (73, .int .i64 (rd x1.Shape 1)), (74, .int .i64 s199.1)] [] hf208 (by kernel_rfl) trivial fun a209 hf210 => ?_
                  refine thenN ?_
                  refine wp_seq ?_
                  refine wp_seq ?_
                  refine reg [] [2, 3, 4, 7, 8, 12, 14, 15, 16, 69, 70, 73, 74, 77, 78] [(2, .pointer (some ⟨b21, 0, none⟩)), (3, .pointer (some ⟨b28, 0, none⟩)), (4, .pointer (some ⟨b35, 0, none⟩)), (7, .int .i64 (rd x0.Shape 1)), (8, .int .i64 (rd x1.Shape 1)), (12, .pointer (some ⟨b155, 0, none⟩)), (14, .slice A172 s199.2.1.length c173), (15, .int .i64 s185.1), (16, .int .i64 s199.1), (69, .int .i64 (rd x0.Shape 0)), (70, .int .i64 s185.1), (73, .int .i64 (rd x1.Shape 1)), (74, .int .i64 s199.1), (77, .int .i64 (rd x0.Shape 1)), (78, .int .i64 0)] [] hf210 (by kernel_rfl) trivial fun a211 hf212 => ?_
                  refine thenN ?_
                  obtain ⟨r214, hr214, H2⟩ := obS_split H2
                  refine wpBlock (Mid := fun (a : Act) (w : World) => Fr 117 a [(2, .pointer (some ⟨b21, 0, none⟩)), (3, .pointer (some ⟨b28, 0, none⟩)), (4, .pointer (some ⟨b35, 0, none⟩)), (7, .int .i64 (rd x0.Shape 1)), (8, .int .i64 (rd x1.Shape 1)), (12, .pointer (some ⟨b155, 0, none⟩)), (14, .slice A172 r214.2.length c173), (15, .int .i64 s185.1), (16, .int .i64 s199.1), (69, .int .i64 (rd x0.Shape 0)), (70, .int .i64 s185.1), (73, .int .i64 (rd x1.Shape 1)), (74, .int .i64 s199.1), (77, .int .i64 (rd x0.Shape 1)), (78, .int .i64 r214.1)] ∧ Mem [] M w0 [.ow Kd.float 47 A172 c173 r214.2, .bx b155 [.slice A144 r141.1.Shape.length c145, .slice A146 s199.2.2.length c147] 42, .ow (Kd.int .i64) 3 A144 c145 r141.1.Shape, .ow Kd.float 47 A146 c147 s199.2.2, .bx b35 [.slice none 0 0, .slice none 0 0] 42, .bx b28 [.slice A1_0 x1.Shape.length c1_0, .slice A1_1 x1.Data.length c1_1] 42, .bx b21 [.slice A0_0 x0.Shape.length c0_0, .slice A0_1 x0.Data.length c0_1] 42, .sl (Kd.int .i64) A0_0 c0_0 x0.Shape, .sl Kd.float A0_1 c0_1 x0.Data, .sl (Kd.int .i64) A1_0 c1_0 x1.Shape, .sl Kd.float A1_1 c1_1 x1.Data] w) ?_ ?_
                  · refine wpLoop (matrix_Mul.l2 x0 s185 x1 s199) r214 (fun (s213 : (Int × (List Nat))) (a : Act) (w : World) => Fr 117 a [(2, .pointer (some ⟨b21, 0, none⟩)), (3, .pointer (some ⟨b28, 0, none⟩)), (4, .pointer (some ⟨b35, 0, none⟩)), (7, .int .i64 (rd x0.Shape 1)), (8, .int .i64 (rd x1.Shape 1)), (12, .pointer (some ⟨b155, 0, none⟩)), (14, .slice A172 s213.2.length c173), (15, .int .i64 s185.1), (16, .int .i64 s199.1), (69, .int .i64 (rd x0.Shape 0)), (70, .int .i64 s185.1), (73, .int .i64 (rd x1.Shape 1)), (74, .int .i64 s199.1), (77, .int .i64 (rd x0.Shape 1)), (78, .int .i64 s213.1)] ∧ Mem [] M w0 [.ow Kd.float 47 A172 c173 s213.2, .bx b155 [.slice A144 r141.1.Shape.length c145, .slice A146 s199.2.2.length c147] 42, .ow (Kd.int .i64) 3 A144 c145 r141.1.Shape, .ow Kd.float 47 A146 c147 s199.2.2, .bx b35 [.slice none 0 0, .slice none 0 0] 42, .bx b28 [.slice A1_0 x1.Shape.length c1_0, .slice A1_1 x1.Data.length c1_1] 42, .bx b21 [.slice A0_0 x0.Shape.length c0_0, .slice A0_1 x0.Data.length c0_1] 42, .sl (Kd.int .i64) A0_0 c0_0 x0.Shape, .sl Kd.float A0_1 c0_1 x0.Data, .sl (Kd.int .i64) A1_0 c1_0 x1.Shape, .sl Kd.float A1_1 c1_1 x1.Data] w) (0, s199.2.1) hr214 ⟨hf212.sel (l := [2, 3, 4, 7, 8, 12, 14, 15, 16, 69, 70, 73, 74, 77, 78]) (by kernel_rfl), hm205.sel [0, 1, 2, 3, 4, 5, 6, 7, 8, 9, 10] _ rfl (by kernel_rfl)⟩ ?_
                    rintro g215 s213 a216 w217 H3 ⟨hf218, hm219⟩
                    unfold matrix_Mul.l2 at H3
                    refine wp_seq ?_
                    rcases ifS_split H3 with ⟨c220, H3⟩ | ⟨c220, H3⟩
                    · refine reg [.bool true] [2, 3, 4, 7, 8, 12, 14, 15, 16, 69, 70, 73, 74, 77, 78, 79] [(2, .pointer (some ⟨b21, 0, none⟩)), (3, .pointer (some ⟨b28, 0, none⟩)), (4, .pointer (some ⟨b35, 0, none⟩)), (7, .int .i64 (rd x0.Shape 1)), (8, .int .i64 (rd x1.Shape 1)), (12, .pointer (some ⟨b155, 0, none⟩)), (14, .slice A172 s213.2.length c173), (15, .int .i64 s185.1), (16, .int .i64 s199.1), (69, .int .i64 (rd x0.Shape 0)), (70, .int .i64 s185.1), (73, .int .i64 (rd x1.Shape 1)), (74, .int .i64 s199.1), (77, .int .i64 (rd x0.Shape 1)), (78, .int .i64 s213.1), (79, .bool true)] [.is (decide (s213.1 < (rd x0.Shape 1)) = true)] hf218 (by kernel_rfl) ⟨(decide_eq_true c220), trivial⟩ fun a221 hf222 => ?_
                      refine thenN ?_
                      refine wp_seq ?_
                      refine condT hf222 (by kernel_rfl) ?_
                      refine wp_skip ?_
                      refine thenN ?_
                      refine wp_seq ?_
                      refine wp_block ?_
                      refine wp_seq ?_
                      refine reg [] [2, 3, 4, 7, 8, 12, 14, 15, 16, 17, 69, 70, 73, 74, 77, 78] [(2, .pointer (some ⟨b21, 0, none⟩)), (3, .pointer (some ⟨b28, 0, none⟩)), (4, .pointer (some ⟨b35, 0, none⟩)), (7, .int .i64 (rd x0.Shape 1)), (8, .int .i64 (rd x1.Shape 1)), (12, .pointer (some ⟨b155, 0, none⟩)), (14, .slice A172 s213.2.length c173), (15, .int .i64 s185.1), (16, .int .i64 s199.1), (17, .int .i64 s213.1), (69, .int .i64 (rd x0.Shape 0)), (70, .int .i64 s185.1), (73, .int .i64 (rd x1.Shape 1)), (74, .int .i64 s199.1), (77, .int .i64 (rd x0.Shape 1)), (78, .int .i64 s213.1)] [] hf222 (by kernel_rfl) trivial fun a223 hf224 => ?_
                      refine thenN ?_
                      obtain ⟨g225, H3⟩ := ifS_guard H3
                      obtain ⟨g226, H3⟩ := ifS_guard H3
                      obtain ⟨r227, hr227, H3⟩ := obS_split H3
                      obtain ⟨g228, H3⟩ := ifS_guard H3
                      refine midReg (fun (a : Act) (w : World) => Fr 117 a [(2, .pointer (some ⟨b21, 0, none⟩)), (3, .pointer (some ⟨b28, 0, none⟩)), (4, .pointer (some ⟨b35, 0, none⟩)), (7, .int .i64 (rd x0.Shape 1)), (8, .int .i64 (rd x1.Shape 1)), (12, .pointer (some ⟨b155, 0, none⟩)), (14, .slice A172 s213.2.length c173), (15, .int .i64 s185.1), (16, .int .i64 s199.1), (69, .int .i64 (rd x0.Shape 0)), (70, .int .i64 s185.1), (73, .int .i64 (rd x1.Shape 1)), (74, .int .i64 s199.1), (77, .int .i64 (rd x0.Shape 1)), (78, .int .i64 s213.1)] ∧ Mem [] M w0 [.ow Kd.float 47 A172 c173 (put s213.2 s213.1 r227), .bx b155 [.slice A144 r141.1.Shape.length c145, .slice A146 s199.2.2.length c147] 42, .ow (Kd.int .i64) 3 A144 c145 r141.1.Shape, .ow Kd.float 47 A146 c147 s199.2.2, .bx b35 [.slice none 0 0, .slice none 0 0] 42, .bx b28 [.slice A1_0 x1.Shape.length c1_0, .slice A1_1 x1.Data.length c1_1] 42, .bx b21 [.slice A0_0 x0.Shape.length c0_0, .slice A0_1 x0.Data.length c0_1] 42, .sl (Kd.int .i64) A0_0 c0_0 x0.Shape, .sl Kd.float A0_1 c0_1 x0.Data, .sl (Kd.int .i64) A1_0 c1_0 x1.Shape, .sl Kd.float A1_1 c1_1 x1.Data] w) ?_ ?_
                      · refine anyG [22] (by kernel_rfl) fun w245 hg246 => ?_
                        have hm247 := hm219.still hg246
                        have q268 := (hm247.slAt 8 rfl).float (w64 ((w64 (s185.1 * (rd x0.Shape 1))) + s213.1)) g225.1 g225.2
                        obtain ⟨b269, hb269, kb269⟩ := q268.2
                        have q270 := (hm247.slAt 10 rfl).float (w64 ((w64 (s213.1 * (rd x1.Shape 1))) + s199.1)) g226.1 g226.2
                        obtain ⟨b271, hb271, kb271⟩ := q270.2
                        refine quiet0 [0, 1, 2, 3, 4, 5, 6, 7, 8, 9, 10, 11, 12, 13, 14, 15, 16, 17, 18, 19] [.slice A0_1 x0.Data.length c0_1, .float .f64 b269, .slice A1_1 x1.Data.length c1_1, .float .f64 b271] [2, 3, 4, 7, 8, 12, 14, 15, 16, 69, 70, 73, 74, 77, 78, 81, 82, 91, 100] #[true, true, true, true, true, true, true, true, true, true, true, true, true, true, true, true, true, true, true, true, false, false, false] [(2, .pointer (some ⟨b21, 0, none⟩)), (3, .pointer (some ⟨b28, 0, none⟩)), (4, .pointer (some ⟨b35, 0, none⟩)), (7, .int .i64 (rd x0.Shape 1)), (8, .int .i64 (rd x1.Shape 1)), (12, .pointer (some ⟨b155, 0, none⟩)), (14, .slice A172 s213.2.length c173), (15, .int .i64 s185.1), (16, .int .i64 s199.1), (69, .int .i64 (rd x0.Shape 0)), (70, .int .i64 s185.1), (73, .int .i64 (rd x1.Shape 1)), (74, .int .i64 s199.1), (77, .int .i64 (rd x0.Shape 1)), (78, .int .i64 s213.1), (81, .slice A172 s213.2.length c173), (82, .int .i64 s213.1), (91, .float .f64 b269), (100, .float .f64 b271)] [.cell ⟨b21, 1, none⟩ (.slice A0_1 x0.Data.length c0_1), .is (Option.isSome A0_1 = true), .is (0 ≤ (w64 ((w64 (s185.1 * (rd x0.Shape 1))) + s213.1)) ∧ (w64 ((w64 (s185.1 * (rd x0.Shape 1))) + s213.1)) < (x0.Data.length : Int)), .cell ((ad A0_1).add (((w64 ((w64 (s185.1 * (rd x0.Shape 1))) + s213.1))).toNat * 1)) (.float .f64 b269), .cell ⟨b28, 1, none⟩ (.slice A1_1 x1.Data.length c1_1), .is (Option.isSome A1_1 = true), .is (0 ≤ (w64 ((w64 (s213.1 * (rd x1.Shape 1))) + s199.1)) ∧ (w64 ((w64 (s213.1 * (rd x1.Shape 1))) + s199.1)) < (x1.Data.length : Int)), .cell ((ad A1_1).add (((w64 ((w64 (s213.1 * (rd x1.Shape 1))) + s199.1))).toNat * 1)) (.float .f64 b271)] 3 rfl (by kernel_rfl) (fun _ _ _ _ _ h => nomatch h.1) hf224 (by kernel_rfl) ⟨(hm247.cell 6 rfl rfl), q268.1, g225, kb269, (hm247.cell 5 rfl rfl), q270.1, g226, kb271, trivial⟩ fun a272 hf273 => ?_
                        refine all1 20 (by kernel_rfl) ?_
                        refine opOf hf273 rfl (by kernel_rfl) (aCall (fid := 55) (args := [.float .f64 b269, .float .f64 b271]) (d := 101) hf273 (by kernel_rfl) (by kernel_rfl) callable55 (real_Real_Times.calls _ _ (rd x0.Data (w64 ((w64 (s185.1 * (rd x0.Shape 1))) + s213.1))) b269 hb269 (rd x1.Data (w64 ((w64 (s213.1 * (rd x1.Shape 1))) + s199.1))) b271 hb271 (hm247.give [] [] rfl rfl) r227 hr227) ?_)
                        rintro _ w275 a276 ⟨b274, rfl, hb274, hk278⟩ hf277
                        refine ⟨.inr (Gr.still hk278.cum.none), ?_⟩
                        have hm279 := hm247.still hk278.cum.none
                        have q280 := (hm279.owAt 0 rfl).float s213.1 g228.1 g228.2
                        obtain ⟨b281, hb281, kb281⟩ := q280.2
                        refine quiet0 [21] [] [2, 3, 4, 7, 8, 12, 14, 15, 16, 69, 70, 73, 74, 77, 78, 101, 102] #[true, true, true, true, true, true, true, true, true, true, true, true, true, true, true, true, true, true, true, true, true, true, false] [(2, .pointer (some ⟨b21, 0, none⟩)), (3, .pointer (some ⟨b28, 0, none⟩)), (4, .pointer (some ⟨b35, 0, none⟩)), (7, .int .i64 (rd x0.Shape 1)), (8, .int .i64 (rd x1.Shape 1)), (12, .pointer (some ⟨b155, 0, none⟩)), (14, .slice A172 s213.2.length c173), (15, .int .i64 s185.1), (16, .int .i64 s199.1), (69, .int .i64 (rd x0.Shape 0)), (70, .int .i64 s185.1), (73, .int .i64 (rd x1.Shape 1)), (74, .int .i64 s199.1), (77, .int .i64 (rd x0.Shape 1)), (78, .int .i64 s213.1), (101, .float .f64 b274), (102, .pointer (some ((ad A172).add ((s213.1).toNat * 1))))] [.is (Option.isSome A172 = true), .is (0 ≤ s213.1 ∧ s213.1 < (s213.2.length : Int))] 1 rfl (by kernel_rfl) (fun _ _ _ _ _ h => nomatch h.1) hf277 (by kernel_rfl) ⟨q280.1, g228, trivial⟩ fun a282 hf283 => ?_
                        refine all1 22 (by kernel_rfl) ?_
                        refine opOf hf283 rfl (by kernel_rfl) (aStoreO (kd := Kd.float) (base := 0) (E := 47) (A := A172) (c := c173) (xs := s213.2) (i := s213.1) (x := r227) (us := [.float .f64 b274]) (sz := 1) hf283 (by kernel_rfl) rfl (by kernel_rfl) (hm279.at 0 rfl) ⟨_, rfl, hb274⟩ g228.1 g228.2 ?_)
                        intro w284 hx285 hg286
                        refine ⟨.inl (by decide), ?_⟩
                        have hm287 : Mem [] M w0 [.ow Kd.float 47 A172 c173 (put s213.2 s213.1 r227), .bx b155 [.slice A144 r141.1.Shape.length c145, .slice A146 s199.2.2.length c147] 42, .ow (Kd.int .i64) 3 A144 c145 r141.1.Shape, .ow Kd.float 47 A146 c147 s199.2.2, .bx b35 [.slice none 0 0, .slice none 0 0] 42, .bx b28 [.slice A1_0 x1.Shape.length c1_0, .slice A1_1 x1.Data.length c1_1] 42, .bx b21 [.slice A0_0 x0.Shape.length c0_0, .slice A0_1 x0.Data.length c0_1] 42, .sl (Kd.int .i64) A0_0 c0_0 x0.Shape, .sl Kd.float A0_1 c0_1 x0.Data, .sl (Kd.int .i64) A1_0 c1_0 x1.Shape, .sl Kd.float A1_1 c1_1 x1.Data] w284 := hm279.setOwn 0 _ rfl rfl hx285 hg286 (.inl rfl)
                        refine allDone (by kernel_rfl) ⟨rfl, hf283.sel (l := [2, 3, 4, 7, 8, 12, 14, 15, 16, 69, 70, 73, 74, 77, 78]) (by kernel_rfl), hm287.sel [0, 1, 2, 3, 4, 5, 6, 7, 8, 9, 10] _ rfl (by kernel_rfl)⟩
                      rintro a288 w289 ⟨hf290, hm291⟩
                      refine blkN ?_
                      refine thenN ?_
                      refine reg [] [2, 3, 4, 7, 8, 12, 14, 15, 16, 69, 70, 73, 74, 77, 78] [(2, .pointer (some ⟨b21, 0, none⟩)), (3, .pointer (some ⟨b28, 0, none⟩)), (4, .pointer (some ⟨b35, 0, none⟩)), (7, .int .i64 (rd x0.Shape 1)), (8, .int .i64 (rd x1.Shape 1)), (12, .pointer (some ⟨b155, 0, none⟩)), (14, .slice A172 s213.2.length c173), (15, .int .i64 s185.1), (16, .int .i64 s199.1), (69, .int .i64 (rd x0.Shape 0)), (70, .int .i64 s185.1), (73, .int .i64 (rd x1.Shape 1)), (74, .int .i64 s199.1), (77, .int .i64 (rd x0.Shape 1)), (78, .int .i64 (w64 (s213.1 + 1)))] [] hf290 (by kernel_rfl) trivial fun a292 hf293 => ?_
                      have hf294 : Fr 117 a292 [(2, .pointer (some ⟨b21, 0, none⟩)), (3, .pointer (some ⟨b28, 0, none⟩)), (4, .pointer (some ⟨b35, 0, none⟩)), (7, .int .i64 (rd x0.Shape 1)), (8, .int .i64 (rd x1.Shape 1)), (12, .pointer (some ⟨b155, 0, none⟩)), (14, .slice A172 s213.2.length c173), (15, .int .i64 s185.1), (16, .int .i64 s199.1), (69, .int .i64 (rd x0.Shape 0)), (70, .int .i64 s185.1), (73, .int .i64 (rd x1.Shape 1)), (74, .int .i64 s199.1), (77, .int .i64 (rd x0.Shape 1)), (78, .int .i64 (w64 (s213.1 + 1)))] := hf293.sel (l := [2, 3, 4, 7, 8, 12, 14, 15, 16, 69, 70, 73, 74, 77, 78]) (by kernel_rfl)
                      have hm295 : Mem [] M w0 [.ow Kd.float 47 A172 c173 (put s213.2 s213.1 r227), .bx b155 [.slice A144 r141.1.Shape.length c145, .slice A146 s199.2.2.length c147] 42, .ow (Kd.int .i64) 3 A144 c145 r141.1.Shape, .ow Kd.float 47 A146 c147 s199.2.2, .bx b35 [.slice none 0 0, .slice none 0 0] 42, .bx b28 [.slice A1_0 x1.Shape.length c1_0, .slice A1_1 x1.Data.length c1_1] 42, .bx b21 [.slice A0_0 x0.Shape.length c0_0, .slice A0_1 x0.Data.length c0_1] 42, .sl (Kd.int .i64) A0_0 c0_0 x0.Shape, .sl Kd.float A0_1 c0_1 x0.Data, .sl (Kd.int .i64) A1_0 c1_0 x1.Shape, .sl Kd.float A1_1 c1_1 x1.Data] w289 := hm291.sel [0, 1, 2, 3, 4, 5, 6, 7, 8, 9, 10] _ rfl (by kernel_rfl)
                      exact ⟨((w64 (s213.1 + 1)), (put s213.2 s213.1 r227)), H3, (by simpa only [put_length, List.length_nil] using hf294), (by simpa only [put_length, List.length_nil] using hm295)⟩
                    · refine reg [.bool false] [2, 3, 4, 7, 8, 12, 14, 15, 16, 69, 70, 73, 74, 77, 78, 79] [(2, .pointer (some ⟨b21, 0, none⟩)), (3, .pointer (some ⟨b28, 0, none⟩)), (4, .pointer (some ⟨b35, 0, none⟩)), (7, .int .i64 (rd x0.Shape 1)), (8, .int .i64 (rd x1.Shape 1)), (12, .pointer (some ⟨b155, 0, none⟩)), (14, .slice A172 s213.2.length c173), (15, .int .i64 s185.1), (16, .int .i64 s199.1), (69, .int .i64 (rd x0.Shape 0)), (70, .int .i64 s185.1), (73, .int .i64 (rd x1.Shape 1)), (74, .int .i64 s199.1), (77, .int .i64 (rd x0.Shape 1)), (78, .int .i64 s213.1), (79, .bool false)] [.is (decide (s213.1 < (rd x0.Shape 1)) = false)] hf218 (by kernel_rfl) ⟨(decide_eq_false c220), trivial⟩ fun a296 hf297 => ?_
                      refine thenN ?_
                      refine wp_seq ?_
                      refine condF hf297 (by kernel_rfl) ?_
                      refine wp_exit ?_
                      refine thenE ?_
                      refine thenE ?_
                      obtain rfl := Option.some.inj H3
                      exact .inl ⟨rfl, hf297.sel (l := [2, 3, 4, 7, 8, 12, 14, 15, 16, 69, 70, 73, 74, 77, 78]) (by kernel_rfl), hm219.sel [0, 1, 2, 3, 4, 5, 6, 7, 8, 9, 10] _ rfl (by kernel_rfl)⟩
                  rintro a298 w299 ⟨hf300, hm301⟩
                  refine thenN ?_
                  obtain ⟨r302, hr302, H2⟩ := obS_split H2
                  obtain ⟨g303, H2⟩ := ifS_guard H2
                  refine midReg (fun (a : Act) (w : World) => Fr 117 a [(2, .pointer (some ⟨b21, 0, none⟩)), (3, .pointer (some ⟨b28, 0, none⟩)), (4, .pointer (some ⟨b35, 0, none⟩)), (7, .int .i64 (rd x0.Shape 1)), (8, .int .i64 (rd x1.Shape 1)), (12, .pointer (some ⟨b155, 0, none⟩)), (14, .slice A172 r214.2.length c173), (15, .int .i64 s185.1), (69, .int .i64 (rd x0.Shape 0)), (70, .int .i64 s185.1), (73, .int .i64 (rd x1.Shape 1)), (74, .int .i64 s199.1)] ∧ Mem [] M w0 [.ow Kd.float 47 A172 c173 r214.2, .bx b155 [.slice A144 r141.1.Shape.length c145, .slice A146 s199.2.2.length c147] 42, .ow (Kd.int .i64) 3 A144 c145 r141.1.Shape, .ow Kd.float 47 A146 c147 (put s199.2.2 (w64 ((w64 (s185.1 * (rd x1.Shape 1))) + s199.1)) r302), .bx b35 [.slice none 0 0, .slice none 0 0] 42, .bx b28 [.slice A1_0 x1.Shape.length c1_0, .slice A1_1 x1.Data.length c1_1] 42, .bx b21 [.slice A0_0 x0.Shape.length c0_0, .slice A0_1 x0.Data.length c0_1] 42, .sl (Kd.int .i64) A0_0 c0_0 x0.Shape, .sl Kd.float A0_1 c0_1 x0.Data, .sl (Kd.int .i64) A1_0 c1_0 x1.Shape, .sl Kd.float A1_1 c1_1 x1.Data] w) ?_ ?_
                  · refine anyG [10] (by kernel_rfl) fun w316 hg317 => ?_
                    have hm318 := hm301.still hg317
                    refine quiet0 [0, 1, 2, 3, 4, 5, 6, 7] [.slice A146 s199.2.2.length c147] [2, 3, 4, 7, 8, 12, 14, 15, 69, 70, 73, 74, 105, 110, 111] #[true, true, true, true, true, true, true, true, false, false, false] [(2, .pointer (some ⟨b21, 0, none⟩)), (3, .pointer (some ⟨b28, 0, none⟩)), (4, .pointer (some ⟨b35, 0, none⟩)), (7, .int .i64 (rd x0.Shape 1)), (8, .int .i64 (rd x1.Shape 1)), (12, .pointer (some ⟨b155, 0, none⟩)), (14, .slice A172 r214.2.length c173), (15, .int .i64 s185.1), (69, .int .i64 (rd x0.Shape 0)), (70, .int .i64 s185.1), (73, .int .i64 (rd x1.Shape 1)), (74, .int .i64 s199.1), (105, .slice A146 s199.2.2.length c147), (110, .int .i64 (w64 ((w64 (s185.1 * (rd x1.Shape 1))) + s199.1))), (111, .slice A172 r214.2.length c173)] [.cell ⟨b155, 1, none⟩ (.slice A146 s199.2.2.length c147)] 3 rfl (by kernel_rfl) (fun _ _ _ _ _ h => nomatch h.1) hf300 (by kernel_rfl) ⟨(hm318.cell 1 rfl rfl), trivial⟩ fun a335 hf336 => ?_
                    refine all1 8 (by kernel_rfl) ?_
                    have hm337 : Mem [] M w0 [.sl Kd.float A172 c173 r214.2, .bx b155 [.slice A144 r141.1.Shape.length c145, .slice A146 s199.2.2.length c147] 42, .ow (Kd.int .i64) 3 A144 c145 r141.1.Shape, .ow Kd.float 47 A146 c147 s199.2.2, .bx b35 [.slice none 0 0, .slice none 0 0] 42, .bx b28 [.slice A1_0 x1.Shape.length c1_0, .slice A1_1 x1.Data.length c1_1] 42, .bx b21 [.slice A0_0 x0.Shape.length c0_0, .slice A0_1 x0.Data.length c0_1] 42, .sl (Kd.int .i64) A0_0 c0_0 x0.Shape, .sl Kd.float A0_1 c0_1 x0.Data, .sl (Kd.int .i64) A1_0 c1_0 x1.Shape, .sl Kd.float A1_1 c1_1 x1.Data] w316 := hm318.seal 0 _ rfl rfl
                    refine opOf hf336 rfl (by kernel_rfl) (aCall (fid := 56) (args := [.slice A172 r214.2.length c173]) (d := 112) hf336 (by kernel_rfl) (by kernel_rfl) callable56 (real_Row.calls _ _ r214.2 A172 r214.2.length c173 rfl (hm337.give [0] [.sl Kd.float A172 c173 r214.2] rfl rfl) r302 hr302) ?_)
                    rintro _ w339 a340 ⟨b338, rfl, hb338, hk342⟩ hf341
                    refine ⟨.inr (Gr.still hk342.cum.none), ?_⟩
                    have hm343 := hm318.still hk342.cum.none
                    have q344 := (hm343.owAt 3 rfl).float (w64 ((w64 (s185.1 * (rd x1.Shape 1))) + s199.1)) g303.1 g303.2
                    obtain ⟨b345, hb345, kb345⟩ := q344.2
                    refine quiet0 [9] [] [2, 3, 4, 7, 8, 12, 14, 15, 69, 70, 73, 74, 112, 113] #[true, true, true, true, true, true, true, true, true, true, false] [(2, .pointer (some ⟨b21, 0, none⟩)), (3, .pointer (some ⟨b28, 0, none⟩)), (4, .pointer (some ⟨b35, 0, none⟩)), (7, .int .i64 (rd x0.Shape 1)), (8, .int .i64 (rd x1.Shape 1)), (12, .pointer (some ⟨b155, 0, none⟩)), (14, .slice A172 r214.2.length c173), (15, .int .i64 s185.1), (69, .int .i64 (rd x0.Shape 0)), (70, .int .i64 s185.1), (73, .int .i64 (rd x1.Shape 1)), (74, .int .i64 s199.1), (112, .float .f64 b338), (113, .pointer (some ((ad A146).add (((w64 ((w64 (s185.1 * (rd x1.Shape 1))) + s199.1))).toNat * 1))))] [.is (Option.isSome A146 = true), .is (0 ≤ (w64 ((w64 (s185.1 * (rd x1.Shape 1))) + s199.1)) ∧ (w64 ((w64 (s185.1 * (rd x1.Shape 1))) + s199.1)) < (s199.2.2.length : Int))] 1 rfl (by kernel_rfl) (fun _ _ _ _ _ h => nomatch h.1) hf341 (by kernel_rfl) ⟨q344.1, g303, trivial⟩ fun a346 hf347 => ?_
                    refine all1 10 (by kernel_rfl) ?_
                    refine opOf hf347 rfl (by kernel_rfl) (aStoreO (kd := Kd.float) (base := 0) (E := 47) (A := A146) (c := c147) (xs := s199.2.2) (i := (w64 ((w64 (s185.1 * (rd x1.Shape 1))) + s199.1))) (x := r302) (us := [.float .f64 b338]) (sz := 1) hf347 (by kernel_rfl) rfl (by kernel_rfl) (hm343.at 3 rfl) ⟨_, rfl, hb338⟩ g303.1 g303.2 ?_)
                    intro w348 hx349 hg350
                    refine ⟨.inl (by decide), ?_⟩
                    have hm351 : Mem [] M w0 [.ow Kd.float 47 A172 c173 r214.2, .bx b155 [.slice A144 r141.1.Shape.length c145, .slice A146 s199.2.2.length c147] 42, .ow (Kd.int .i64) 3 A144 c145 r141.1.Shape, .ow Kd.float 47 A146 c147 (put s199.2.2 (w64 ((w64 (s185.1 * (rd x1.Shape 1))) + s199.1)) r302), .bx b35 [.slice none 0 0, .slice none 0 0] 42, .bx b28 [.slice A1_0 x1.Shape.length c1_0, .slice A1_1 x1.Data.length c1_1] 42, .bx b21 [.slice A0_0 x0.Shape.length c0_0, .slice A0_1 x0.Data.length c0_1] 42, .sl (Kd.int .i64) A0_0 c0_0 x0.Shape, .sl Kd.float A0_1 c0_1 x0.Data, .sl (Kd.int .i64) A1_0 c1_0 x1.Shape, .sl Kd.float A1_1 c1_1 x1.Data] w348 := hm343.setOwn 3 _ rfl rfl hx349 hg350 (.inl rfl)
                    refine allDone (by kernel_rfl) ⟨rfl, hf347.sel (l := [2, 3, 4, 7, 8, 12, 14, 15, 69, 70, 73, 74]) (by kernel_rfl), hm351.sel [0, 1, 2, 3, 4, 5, 6, 7, 8, 9, 10] _ rfl (by kernel_rfl)⟩
                  rintro a352 w353 ⟨hf354, hm355⟩
                  refine blkN ?_
                  refine thenN ?_
                  refine reg [] [2, 3, 4, 7, 8, 12, 14, 15, 69, 70, 73, 74] [(2, .pointer (some ⟨b21, 0, none⟩)), (3, .pointer (some ⟨b28, 0, none⟩)), (4, .pointer (some ⟨b35, 0, none⟩)), (7, .int .i64 (rd x0.Shape 1)), (8, .int .i64 (rd x1.Shape 1)), (12, .pointer (some ⟨b155, 0, none⟩)), (14, .slice A172 r214.2.length c173), (15, .int .i64 s185.1), (69, .int .i64 (rd x0.Shape 0)), (70, .int .i64 s185.1), (73, .int .i64 (rd x1.Shape 1)), (74, .int .i64 (w64 (s199.1 + 1)))] [] hf354 (by kernel_rfl) trivial fun a356 hf357 => ?_
                  have hf358 : Fr 117 a356 [(2, .pointer (some ⟨b21, 0, none⟩)), (3, .pointer (some ⟨b28, 0, none⟩)), (4, .pointer (some ⟨b35, 0, none⟩)), (7, .int .i64 (rd x0.Shape 1)), (8, .int .i64 (rd x1.Shape 1)), (12, .pointer (some ⟨b155, 0, none⟩)), (14, .slice A172 r214.2.length c173), (15, .int .i64 s185.1), (69, .int .i64 (rd x0.Shape 0)), (70, .int .i64 s185.1), (73, .int .i64 (rd x1.Shape 1)), (74, .int .i64 (w64 (s199.1 + 1)))] := hf357.sel (l := [2, 3, 4, 7, 8, 12, 14, 15, 69, 70, 73, 74]) (by kernel_rfl)
                  have hm359 : Mem [] M w0 [.ow Kd.float 47 A172 c173 r214.2, .bx b155 [.slice A144 r141.1.Shape.length c145, .slice A146 s199.2.2.length c147] 42, .ow (Kd.int .i64) 3 A144 c145 r141.1.Shape, .ow Kd.float 47 A146 c147 (put s199.2.2 (w64 ((w64 (s185.1 * (rd x1.Shape 1))) + s199.1)) r302), .bx b35 [.slice none 0 0, .slice none 0 0] 42, .bx b28 [.slice A1_0 x1.Shape.length c1_0, .slice A1_1 x1.Data.length c1_1] 42, .bx b21 [.slice A0_0 x0.Shape.length c0_0, .slice A0_1 x0.Data.length c0_1] 42, .sl (Kd.int .i64) A0_0 c0_0 x0.Shape, .sl Kd.float A0_1 c0_1 x0.Data, .sl (Kd.int .i64) A1_0 c1_0 x1.Shape, .sl Kd.float A1_1 c1_1 x1.Data] w353 := hm355.sel [0, 1, 2, 3, 4, 5, 6, 7, 8, 9, 10] _ rfl (by kernel_rfl)
                  exact ⟨((w64 (s199.1 + 1)), r214.2, (put s199.2.2 (w64 ((w64 (s185.1 * (rd x1.Shape 1))) + s199.1)) r302)), H2, (by simpa only [put_length, List.length_nil] using hf358), (by simpa only [put_length, List.length_nil] using hm359)⟩
                · refine reg [.bool false] [2, 3, 4, 7, 8, 12, 14, 15, 69, 70, 73, 74, 75] [(2, .pointer (some ⟨b21, 0, none⟩)), (3, .pointer (some ⟨b28, 0, none⟩)), (4, .pointer (some ⟨b35, 0, none⟩)), (7, .int .i64 (rd x0.Shape 1)), (8, .int .i64 (rd x1.Shape 1)), (12, .pointer (some ⟨b155, 0, none⟩)), (14, .slice A172 s199.2.1.length c173), (15, .int .i64 s185.1), (69, .int .i64 (rd x0.Shape 0)), (70, .int .i64 s185.1), (73, .int .i64 (rd x1.Shape 1)), (74, .int .i64 s199.1), (75, .bool false)] [.is (decide (s199.1 < (rd x1.Shape 1)) = false)] hf204 (by kernel_rfl) ⟨(decide_eq_false c206), trivial⟩ fun a360 hf361 => ?_
                  refine thenN ?_
                  refine wp_seq ?_
                  refine condF hf361 (by kernel_rfl) ?_
                  refine wp_exit ?_
                  refine thenE ?_
                  refine thenE ?_
                  obtain rfl := Option.some.inj H2
                  exact .inl ⟨rfl, hf361.sel (l := [2, 3, 4, 7, 8, 12, 14, 15, 69, 70, 73, 74]) (by kernel_rfl), hm205.sel [0, 1, 2, 3, 4, 5, 6, 7, 8, 9, 10] _ rfl (by kernel_rfl)⟩
              rintro a362 w363 ⟨hf364, hm365⟩
              refine blkN ?_
              refine thenN ?_
              refine reg [] [2, 3, 4, 7, 8, 12, 14, 69, 70] [(2, .pointer (some ⟨b21, 0, none⟩)), (3, .pointer (some ⟨b28, 0, none⟩)), (4, .pointer (some ⟨b35, 0, none⟩)), (7, .int .i64 (rd x0.Shape 1)), (8, .int .i64 (rd x1.Shape 1)), (12, .pointer (some ⟨b155, 0, none⟩)), (14, .slice A172 r200.2.1.length c173), (69, .int .i64 (rd x0.Shape 0)), (70, .int .i64 (w64 (s185.1 + 1)))] [] hf364 (by kernel_rfl) trivial fun a366 hf367 => ?_
              exact ⟨((w64 (s185.1 + 1)), r200.2.1, r200.2.2), H1, hf367.sel (l := [2, 3, 4, 7, 8, 12, 14, 69, 70]) (by kernel_rfl), hm365.sel [0, 1, 2, 3, 4, 5, 6, 7, 8, 9, 10] _ rfl (by kernel_rfl)⟩
            · refine reg [.bool false] [2, 3, 4, 7, 8, 12, 14, 69, 70, 71] [(2, .pointer (some ⟨b21, 0, none⟩)), (3, .pointer (some ⟨b28, 0, none⟩)), (4, .pointer (some ⟨b35, 0, none⟩)), (7, .int .i64 (rd x0.Shape 1)), (8, .int .i64 (rd x1.Shape 1)), (12, .pointer (some ⟨b155, 0, none⟩)), (14, .slice A172 s185.2.1.length c173), (69, .int .i64 (rd x0.Shape 0)), (70, .int .i64 s185.1), (71, .bool false)] [.is (decide (s185.1 < (rd x0.Shape 0)) = false)] hf190 (by kernel_rfl) ⟨(decide_eq_false c192), trivial⟩ fun a368 hf369 => ?_
              refine thenN ?_
              refine wp_seq ?_
              refine condF hf369 (by kernel_rfl) ?_
              refine wp_exit ?_
              refine thenE ?_
              refine thenE ?_
              obtain rfl := Option.some.inj H1
              exact .inl ⟨rfl, hf369.sel (l := [2, 3, 4, 7, 8, 12, 14, 69, 70]) (by kernel_rfl), hm191.sel [0, 1, 2, 3, 4, 5, 6, 7, 8, 9, 10] _ rfl (by kernel_rfl)⟩
          rintro a370 w371 ⟨hf372, hm373⟩
          refine thenN ?_
          refine wp_seq ?_
          refine inReg ?_
          refine go 1 [.agg #[.slice A144 r141.1.Shape.length c145, .slice A146 r186.2.2.length c147]] [4, 116] [(4, .pointer (some ⟨b35, 0, none⟩)), (116, .agg #[.slice A144 r141.1.Shape.length c145, .slice A146 r186.2.2.length c147])] [.cell ⟨b155, 0, none⟩ (.slice A144 r141.1.Shape.length c145), .cell ⟨b155, 1, none⟩ (.slice A146 r186.2.2.length c147)] hf372 (by kernel_rfl) ⟨(hm373.cell 1 rfl rfl), (hm373.cell 1 rfl rfl), trivial⟩ fun a374 hf375 => ?_
          refine listOf hf375 rfl (by kernel_rfl) (aStoreB (b := b35) (j := 0) (T := 42) (cs := [.slice none 0 0, .slice none 0 0]) (us := [.slice A144 r141.1.Shape.length c145, .slice A146 r186.2.2.length c147]) (cs' := [.slice A144 r141.1.Shape.length c145, .slice A146 r186.2.2.length c147]) hf375 (by kernel_rfl) (hm373.bxAt 4 rfl) (by kernel_rfl) (by kernel_rfl) (by kernel_rfl) ?_)
          intro w376 hx377 hg378
          have hm379 := hm373.setBox 4 _ rfl rfl hx377 hg378
          refine go 1 [] [4, 5] [(4, .pointer (some ⟨b35, 0, none⟩)), (5, .int .i64 0)] [] hf375 (by kernel_rfl) trivial fun a380 hf381 => ?_
          refine endL rfl ?_
          have hm382 := hm379.sel [2, 3, 4] _ rfl (by kernel_rfl)
          refine thenN ?_
          refine wp_ret ?_
          have hm383 : Mem [] M w0 [.ow (Kd.int .i64) 3 A144 c145 r141.1.Shape, .ow Kd.float 47 A146 c147 r186.2.2] w376 := hm382.sel [0, 1] _ rfl (by kernel_rfl)
          obtain rfl := Option.some.inj H0
          refine ret [.agg #[.slice A144 r141.1.Shape.length c145, .slice A146 r186.2.2.length c147]] [.agg #[.slice A144 r141.1.Shape.length c145, .slice A146 r186.2.2.length c147], .int .i64 0] [.cell ⟨b35, 0, none⟩ (.slice A144 r141.1.Shape.length c145), .cell ⟨b35, 1, none⟩ (.slice A146 r186.2.2.length c147)] hf381 (by kernel_rfl) ⟨(hm382.cell 2 rfl rfl), (hm382.cell 2 rfl rfl), trivial⟩ ?_
          exact ⟨_, rfl, A144, c145, A146, c147, rfl, hm383⟩
        · refine reg [.bool true] [2, 3, 4, 6, 7, 8, 9, 11, 59] [(2, .pointer (some ⟨b21, 0, none⟩)), (3, .pointer (some ⟨b28, 0, none⟩)), (4, .pointer (some ⟨b35, 0, none⟩)), (6, .int .i64 (rd x0.Shape 0)), (7, .int .i64 (rd x0.Shape 1)), (8, .int .i64 (rd x1.Shape 1)), (9, .slice (some ⟨b119, 0, none⟩) 2 2), (11, .int .i64 r128.2), (59, .bool true)] [.is (((r128.2 : Int) != 0) = true)] hf137 (by kernel_rfl) ⟨(neT c138), trivial⟩ fun a385 hf386 => ?_
          refine thenN ?_
          refine condT hf386 (by kernel_rfl) ?_
          refine wp_seq ?_
          refine inReg ?_
          refine go 2 [] [4, 60, 61] [(4, .pointer (some ⟨b35, 0, none⟩)), (60, .agg #[.slice none 0 0, .slice none 0 0]), (61, .int .i64 r128.2)] [] hf386 (by kernel_rfl) trivial fun a387 hf388 => ?_
          refine listOf hf388 rfl (by kernel_rfl) (aStoreB (b := b35) (j := 0) (T := 42) (cs := [.slice none 0 0, .slice none 0 0]) (us := [.slice none 0 0, .slice none 0 0]) (cs' := [.slice none 0 0, .slice none 0 0]) hf388 (by kernel_rfl) (hm135.bxAt 1 rfl) (by kernel_rfl) (by kernel_rfl) (by kernel_rfl) ?_)
          intro w389 hx390 hg391
          have hm392 := hm135.setBox 1 _ rfl rfl hx390 hg391
          refine go 1 [] [4, 5] [(4, .pointer (some ⟨b35, 0, none⟩)), (5, .int .i64 r128.2)] [] hf388 (by kernel_rfl) trivial fun a393 hf394 => ?_
          refine endL rfl ?_
          have hm395 := hm392.sel [1] _ rfl (by kernel_rfl)
          refine thenN ?_
          refine wp_ret ?_
          refine thenR ?_
          have hm396 : Mem [] M w0 [.ow (Kd.int .i64) 3 none 0 ([] : (List Int)), .bx b35 [.slice none 0 0, .slice none 0 0] 42] w389 := hm395.nilOw (Kd.int .i64) 3
          have hm397 : Mem [] M w0 [.ow Kd.float 47 none 0 ([] : (List Nat)), .ow (Kd.int .i64) 3 none 0 ([] : (List Int)), .bx b35 [.slice none 0 0, .slice none 0 0] 42] w389 := hm396.nilOw Kd.float 47
          have hm398 : Mem [] M w0 [.ow (Kd.int .i64) 3 none 0 ([] : (List Int)), .ow Kd.float 47 none 0 ([] : (List Nat))] w389 := hm397.sel [1, 0] _ rfl (by kernel_rfl)
          obtain rfl := Option.some.inj H0
          refine ret [.agg #[.slice none 0 0, .slice none 0 0]] [.agg #[.slice none 0 0, .slice none 0 0], .int .i64 r128.2] [.cell ⟨b35, 0, none⟩ (.slice none 0 0), .cell ⟨b35, 1, none⟩ (.slice none 0 0)] hf394 (by kernel_rfl) ⟨(hm395.cell 0 rfl rfl), (hm395.cell 0 rfl rfl), trivial⟩ ?_
          exact ⟨_, rfl, none, 0, none, 0, rfl, hm398⟩
      · refine midReg (fun (a : Act) (w : World) => Fr 117 a [(2, .pointer (some ⟨b21, 0, none⟩)), (3, .pointer (some ⟨b28, 0, none⟩)), (4, .pointer (some ⟨b35, 0, none⟩)), (36, .bool true)] ∧ Mem [] M w0 [.bx b35 [.slice none 0 0, .slice none 0 0] 42, .bx b28 [.slice A1_0 x1.Shape.length c1_0, .slice A1_1 x1.Data.length c1_1] 42, .bx b21 [.slice A0_0 x0.Shape.length c0_0, .slice A0_1 x0.Data.length c0_1] 42, .sl (Kd.int .i64) A0_0 c0_0 x0.Shape, .sl Kd.float A0_1 c0_1 x0.Data, .sl (Kd.int .i64) A1_0 c1_0 x1.Shape, .sl Kd.float A1_1 c1_1 x1.Data] w) ?_ ?_
        · refine anyG [] (by kernel_rfl) fun w412 hg413 => ?_
          have hm414 := hm41.still hg413
          refine quiet0 [0] [.agg #[.slice A0_0 x0.Shape.length c0_0, .slice A0_1 x0.Data.length c0_1]] [2, 3, 4, 18] #[true, false, false, false, false, false, false, false, false, false, false, false, false, false, false, false, false, false, false] [(2, .pointer (some ⟨b21, 0, none⟩)), (3, .pointer (some ⟨b28, 0, none⟩)), (4, .pointer (some ⟨b35, 0, none⟩)), (18, .agg #[.slice A0_0 x0.Shape.length c0_0, .slice A0_1 x0.Data.length c0_1])] [.cell ⟨b21, 0, none⟩ (.slice A0_0 x0.Shape.length c0_0), .cell ⟨b21, 1, none⟩ (.slice A0_1 x0.Data.length c0_1)] 18 rfl (by kernel_rfl) (fun _ _ _ _ _ h => nomatch h.1) hf43 (by kernel_rfl) ⟨(hm414.cell 2 rfl rfl), (hm414.cell 2 rfl rfl), trivial⟩ fun a433 hf434 => ?_
          refine all1 1 (by kernel_rfl) ?_
          refine opOf hf434 rfl (by kernel_rfl) (aCall (fid := 53) (args := [.agg #[.slice A0_0 x0.Shape.length c0_0, .slice A0_1 x0.Data.length c0_1]]) (d := 19) hf434 (by kernel_rfl) (by kernel_rfl) callable53 (matrix_flat.calls _ _ x0 A0_0 x0.Shape.length c0_0 rfl A0_1 x0.Data.length c0_1 rfl (hm414.give [3, 4] [.sl (Kd.int .i64) A0_0 c0_0 x0.Shape, .sl Kd.float A0_1 c0_1 x0.Data] rfl rfl) r44 hr44) ?_)
          rintro _ w435 a436 ⟨rfl, hk438⟩ hf437
          refine ⟨.inr (Gr.still hk438.cum.none), ?_⟩
          have hm439 := hm414.still hk438.cum.none
          rw [c45] at hf437
          refine quiet0 [2, 3, 4] [.agg #[.slice A1_0 x1.Shape.length c1_0, .slice A1_1 x1.Data.length c1_1]] [2, 3, 4, 21, 22] #[true, true, true, true, true, false, false, false, false, false, false, false, false, false, false, false, false, false, false] [(2, .pointer (some ⟨b21, 0, none⟩)), (3, .pointer (some ⟨b28, 0, none⟩)), (4, .pointer (some ⟨b35, 0, none⟩)), (21, .bool false), (22, .agg #[.slice A1_0 x1.Shape.length c1_0, .slice A1_1 x1.Data.length c1_1])] [.cell ⟨b28, 0, none⟩ (.slice A1_0 x1.Shape.length c1_0), .cell ⟨b28, 1, none⟩ (.slice A1_1 x1.Data.length c1_1)] 14 rfl (by kernel_rfl) (fun _ _ _ _ _ h => nomatch h.1) hf437 (by kernel_rfl) ⟨(hm439.cell 1 rfl rfl), (hm439.cell 1 rfl rfl), trivial⟩ fun a440 hf441 => ?_
          refine all1 5 (by kernel_rfl) ?_
          refine opOf hf441 rfl (by kernel_rfl) (aCall (fid := 53) (args := [.agg #[.slice A1_0 x1.Shape.length c1_0, .slice A1_1 x1.Data.length c1_1]]) (d := 23) hf441 (by kernel_rfl) (by kernel_rfl) callable53 (matrix_flat.calls _ _ x1 A1_0 x1.Shape.length c1_0 rfl A1_1 x1.Data.length c1_1 rfl (hm439.give [5, 6] [.sl (Kd.int .i64) A1_0 c1_0 x1.Shape, .sl Kd.float A1_1 c1_1 x1.Data] rfl rfl) r46 hr46) ?_)
          rintro _ w442 a443 ⟨rfl, hk445⟩ hf444
          refine ⟨.inr (Gr.still hk445.cum.none), ?_⟩
          have hm446 := hm439.still hk445.cum.none
          rw [c47] at hf444
          have q447 := (hm446.slAt 3 rfl).int 1 g48.1 g48.2
          have q448 := (hm446.slAt 5 rfl).int 0 g49.1 g49.2
          refine quiet0 [6, 7, 8, 9, 10, 11, 12, 13, 14, 15, 16, 17, 18] [.slice A0_0 x0.Shape.length c0_0, .int .i64 (rd x0.Shape 1), .slice A1_0 x1.Shape.length c1_0, .int .i64 (rd x1.Shape 0), .bool true] [2, 3, 4, 36] #[true, true, true, true, true, true, true, true, true, true, true, true, true, true, true, true, true, true, true] [(2, .pointer (some ⟨b21, 0, none⟩)), (3, .pointer (some ⟨b28, 0, none⟩)), (4, .pointer (some ⟨b35, 0, none⟩)), (36, .bool true)] [.cell ⟨b21, 0, none⟩ (.slice A0_0 x0.Shape.length c0_0), .is (Option.isSome A0_0 = true), .is ((0 : Int) ≤ 1 ∧ 1 < (x0.Shape.length : Int)), .cell ((ad A0_0).add ((1 : Int).toNat * 1)) (.int .i64 (rd x0.Shape 1)), .cell ⟨b28, 0, none⟩ (.slice A1_0 x1.Shape.length c1_0), .is (Option.isSome A1_0 = true), .is ((0 : Int) ≤ 0 ∧ 0 < (x1.Shape.length : Int)), .cell ((ad A1_0).add ((0 : Int).toNat * 1)) (.int .i64 (rd x1.Shape 0)), .is ((((rd x0.Shape 1) : Int) != (rd x1.Shape 0)) = true)] 0 rfl (by kernel_rfl) (fun _ _ _ _ _ h => nomatch h.1) hf444 (by kernel_rfl) ⟨(hm446.cell 2 rfl rfl), q447.1, g48, q447.2, (hm446.cell 1 rfl rfl), q448.1, g49, q448.2, (neT c50), trivial⟩ fun a449 hf450 => ?_
          refine allDone (by kernel_rfl) ⟨rfl, hf450.sel (l := [2, 3, 4, 36]) (by kernel_rfl), hm446.sel [0, 1, 2, 3, 4, 5, 6] _ rfl (by kernel_rfl)⟩
        rintro a451 w452 ⟨hf453, hm454⟩
        refine thenN ?_
        refine condT hf453 (by kernel_rfl) ?_
        refine wp_seq ?_
        refine inReg ?_
        refine go 1 [] [4, 37] [(4, .pointer (some ⟨b35, 0, none⟩)), (37, .agg #[.slice none 0 0, .slice none 0 0])] [] hf453 (by kernel_rfl) trivial fun a455 hf456 => ?_
        refine listOf hf456 rfl (by kernel_rfl) (aStoreB (b := b35) (j := 0) (T := 42) (cs := [.slice none 0 0, .slice none 0 0]) (us := [.slice none 0 0, .slice none 0 0]) (cs' := [.slice none 0 0, .slice none 0 0]) hf456 (by kernel_rfl) (hm454.bxAt 0 rfl) (by kernel_rfl) (by kernel_rfl) (by kernel_rfl) ?_)
        intro w457 hx458 hg459
        have hm460 := hm454.setBox 0 _ rfl rfl hx458 hg459
        refine go 1 [] [4, 5] [(4, .pointer (some ⟨b35, 0, none⟩)), (5, .int .i64 2)] [] hf456 (by kernel_rfl) trivial fun a461 hf462 => ?_
        refine endL rfl ?_
        have hm463 := hm460.sel [0] _ rfl (by kernel_rfl)
        refine thenN ?_
        refine wp_ret ?_
        refine thenR ?_
        have hm464 : Mem [] M w0 [.ow (Kd.int .i64) 3 none 0 ([] : (List Int)), .bx b35 [.slice none 0 0, .slice none 0 0] 42] w457 := hm463.nilOw (Kd.int .i64) 3
        have hm465 : Mem [] M w0 [.ow Kd.float 47 none 0 ([] : (List Nat)), .ow (Kd.int .i64) 3 none 0 ([] : (List Int)), .bx b35 [.slice none 0 0, .slice none 0 0] 42] w457 := hm464.nilOw Kd.float 47
        have hm466 : Mem [] M w0 [.ow (Kd.int .i64) 3 none 0 ([] : (List Int)), .ow Kd.float 47 none 0 ([] : (List Nat))] w457 := hm465.sel [1, 0] _ rfl (by kernel_rfl)
        obtain rfl := Option.some.inj H0
        refine ret [.agg #[.slice none 0 0, .slice none 0 0]] [.agg #[.slice none 0 0, .slice none 0 0], .int .i64 2] [.cell ⟨b35, 0, none⟩ (.slice none 0 0), .cell ⟨b35, 1, none⟩ (.slice none 0 0)] hf462 (by kernel_rfl) ⟨(hm463.cell 0 rfl rfl), (hm463.cell 0 rfl rfl), trivial⟩ ?_
        exact ⟨_, rfl, none, 0, none, 0, rfl, hm466⟩
    · refine midReg (fun (a : Act) (w : World) => Fr 117 a [(2, .pointer (some ⟨b21, 0, none⟩)), (3, .pointer (some ⟨b28, 0, none⟩)), (4, .pointer (some ⟨b35, 0, none⟩)), (36, .bool true)] ∧ Mem [] M w0 [.bx b35 [.slice none 0 0, .slice none 0 0] 42, .bx b28 [.slice A1_0 x1.Shape.length c1_0, .slice A1_1 x1.Data.length c1_1] 42, .bx b21 [.slice A0_0 x0.Shape.length c0_0, .slice A0_1 x0.Data.length c0_1] 42, .sl (Kd.int .i64) A0_0 c0_0 x0.Shape, .sl Kd.float A0_1 c0_1 x0.Data, .sl (Kd.int .i64) A1_0 c1_0 x1.Shape, .sl Kd.float A1_1 c1_1 x1.Data] w) ?_ ?_
      · refine anyG [] (by kernel_rfl) fun w478 hg479 => ?_
        have hm480 := hm41.still hg479
        refine quiet0 [0] [.agg #[.slice A0_0 x0.Shape.length c0_0, .slice A0_1 x0.Data.length c0_1]] [2, 3, 4, 18] #[true, false, false, false, false, false, false, false, false, false, false, false, false, false, false, false, false, false, false] [(2, .pointer (some ⟨b21, 0, none⟩)), (3, .pointer (some ⟨b28, 0, none⟩)), (4, .pointer (some ⟨b35, 0, none⟩)), (18, .agg #[.slice A0_0 x0.Shape.length c0_0, .slice A0_1 x0.Data.length c0_1])] [.cell ⟨b21, 0, none⟩ (.slice A0_0 x0.Shape.length c0_0), .cell ⟨b21, 1, none⟩ (.slice A0_1 x0.Data.length c0_1)] 18 rfl (by kernel_rfl) (fun _ _ _ _ _ h => nomatch h.1) hf43 (by kernel_rfl) ⟨(hm480.cell 2 rfl rfl), (hm480.cell 2 rfl rfl), trivial⟩ fun a497 hf498 => ?_
        refine all1 1 (by kernel_rfl) ?_
        refine opOf hf498 rfl (by kernel_rfl) (aCall (fid := 53) (args := [.agg #[.slice A0_0 x0.Shape.length c0_0, .slice A0_1 x0.Data.length c0_1]]) (d := 19) hf498 (by kernel_rfl) (by kernel_rfl) callable53 (matrix_flat.calls _ _ x0 A0_0 x0.Shape.length c0_0 rfl A0_1 x0.Data.length c0_1 rfl (hm480.give [3, 4] [.sl (Kd.int .i64) A0_0 c0_0 x0.Shape, .sl Kd.float A0_1 c0_1 x0.Data] rfl rfl) r44 hr44) ?_)
        rintro _ w499 a500 ⟨rfl, hk502⟩ hf501
        refine ⟨.inr (Gr.still hk502.cum.none), ?_⟩
        have hm503 := hm480.still hk502.cum.none
        rw [c45] at hf501
        refine quiet0 [2, 3, 4] [.agg #[.slice A1_0 x1.Shape.length c1_0, .slice A1_1 x1.Data.length c1_1]] [2, 3, 4, 21, 22] #[true, true, true, true, true, false, false, false, false, false, false, false, false, false, false, false, false, false, false] [(2, .pointer (some ⟨b21, 0, none⟩)), (3, .pointer (some ⟨b28, 0, none⟩)), (4, .pointer (some ⟨b35, 0, none⟩)), (21, .bool false), (22, .agg #[.slice A1_0 x1.Shape.length c1_0, .slice A1_1 x1.Data.length c1_1])] [.cell ⟨b28, 0, none⟩ (.slice A1_0 x1.Shape.length c1_0), .cell ⟨b28, 1, none⟩ (.slice A1_1 x1.Data.length c1_1)] 14 rfl (by kernel_rfl) (fun _ _ _ _ _ h => nomatch h.1) hf501 (by kernel_rfl) ⟨(hm503.cell 1 rfl rfl), (hm503.cell 1 rfl rfl), trivial⟩ fun a504 hf505 => ?_
        refine all1 5 (by kernel_rfl) ?_
        refine opOf hf505 rfl (by kernel_rfl) (aCall (fid := 53) (args := [.agg #[.slice A1_0 x1.Shape.length c1_0, .slice A1_1 x1.Data.length c1_1]]) (d := 23) hf505 (by kernel_rfl) (by kernel_rfl) callable53 (matrix_flat.calls _ _ x1 A1_0 x1.Shape.length c1_0 rfl A1_1 x1.Data.length c1_1 rfl (hm503.give [5, 6] [.sl (Kd.int .i64) A1_0 c1_0 x1.Shape, .sl Kd.float A1_1 c1_1 x1.Data] rfl rfl) r46 hr46) ?_)
        rintro _ w506 a507 ⟨rfl, hk509⟩ hf508
        refine ⟨.inr (Gr.still hk509.cum.none), ?_⟩
        have hm510 := hm503.still hk509.cum.none
        rw [c47] at hf508
        refine quiet0 [6, 7, 8, 9, 10, 11, 12, 13, 14, 15, 16, 17, 18] [] [2, 3, 4, 36] #[true, true, true, true, true, true, true, true, true, true, true, true, true, true, true, true, true, true, true] [(2, .pointer (some ⟨b21, 0, none⟩)), (3, .pointer (some ⟨b28, 0, none⟩)), (4, .pointer (some ⟨b35, 0, none⟩)), (36, .bool true)] [] 0 rfl (by kernel_rfl) (fun _ _ _ _ _ h => nomatch h.1) hf508 (by kernel_rfl) trivial fun a511 hf512 => ?_
        refine allDone (by kernel_rfl) ⟨rfl, hf512.sel (l := [2, 3, 4, 36]) (by kernel_rfl), hm510.sel [0, 1, 2, 3, 4, 5, 6] _ rfl (by kernel_rfl)⟩
      rintro a513 w514 ⟨hf515, hm516⟩
      refine thenN ?_
      refine condT hf515 (by kernel_rfl) ?_
      refine wp_seq ?_
      refine inReg ?_
      refine go 1 [] [4, 37] [(4, .pointer (some ⟨b35, 0, none⟩)), (37, .agg #[.slice none 0 0, .slice none 0 0])] [] hf515 (by kernel_rfl) trivial fun a517 hf518 => ?_
      refine listOf hf518 rfl (by kernel_rfl) (aStoreB (b := b35) (j := 0) (T := 42) (cs := [.slice none 0 0, .slice none 0 0]) (us := [.slice none 0 0, .slice none 0 0]) (cs' := [.slice none 0 0, .slice none 0 0]) hf518 (by kernel_rfl) (hm516.bxAt 0 rfl) (by kernel_rfl) (by kernel_rfl) (by kernel_rfl) ?_)
      intro w519 hx520 hg521
      have hm522 := hm516.setBox 0 _ rfl rfl hx520 hg521
      refine go 1 [] [4, 5] [(4, .pointer (some ⟨b35, 0, none⟩)), (5, .int .i64 2)] [] hf518 (by kernel_rfl) trivial fun a523 hf524 => ?_
      refine endL rfl ?_
      have hm525 := hm522.sel [0] _ rfl (by kernel_rfl)
      refine thenN ?_
      refine wp_ret ?_
      refine thenR ?_
      have hm526 : Mem [] M w0 [.ow (Kd.int .i64) 3 none 0 ([] : (List Int)), .bx b35 [.slice none 0 0, .slice none 0 0] 42] w519 := hm525.nilOw (Kd.int .i64) 3
      have hm527 : Mem [] M w0 [.ow Kd.float 47 none 0 ([] : (List Nat)), .ow (Kd.int .i64) 3 none 0 ([] : (List Int)), .bx b35 [.slice none 0 0, .slice none 0 0] 42] w519 := hm526.nilOw Kd.float 47
      have hm528 : Mem [] M w0 [.ow (Kd.int .i64) 3 none 0 ([] : (List Int)), .ow Kd.float 47 none 0 ([] : (List Nat))] w519 := hm527.sel [1, 0] _ rfl (by kernel_rfl)
      obtain rfl := Option.some.inj H0
      refine ret [.agg #[.slice none 0 0, .slice none 0 0]] [.agg #[.slice none 0 0, .slice none 0 0], .int .i64 2] [.cell ⟨b35, 0, none⟩ (.slice none 0 0), .cell ⟨b35, 1, none⟩ (.slice none 0 0)] hf524 (by kernel_rfl) ⟨(hm525.cell 0 rfl rfl), (hm525.cell 0 rfl rfl), trivial⟩ ?_
      exact ⟨_, rfl, none, 0, none, 0, rfl, hm528⟩
  · refine midReg (fun (a : Act) (w : World) => Fr 117 a [(2, .pointer (some ⟨b21, 0, none⟩)), (3, .pointer (some ⟨b28, 0, none⟩)), (4, .pointer (some ⟨b35, 0, none⟩)), (36, .bool true)] ∧ Mem [] M w0 [.bx b35 [.slice none 0 0, .slice none 0 0] 42, .bx b28 [.slice A1_0 x1.Shape.length c1_0, .slice A1_1 x1.Data.length c1_1] 42, .bx b21 [.slice A0_0 x0.Shape.length c0_0, .slice A0_1 x0.Data.length c0_1] 42, .sl (Kd.int .i64) A0_0 c0_0 x0.Shape, .sl Kd.float A0_1 c0_1 x0.Data, .sl (Kd.int .i64) A1_0 c1_0 x1.Shape, .sl Kd.float A1_1 c1_1 x1.Data] w) ?_ ?_
    · refine anyG [] (by kernel_rfl) fun w535 hg536 => ?_
      have hm537 := hm41.still hg536
      refine quiet0 [0] [.agg #[.slice A0_0 x0.Shape.length c0_0, .slice A0_1 x0.Data.length c0_1]] [2, 3, 4, 18] #[true, false, false, false, false, false, false, false, false, false, false, false, false, false, false, false, false, false, false] [(2, .pointer (some ⟨b21, 0, none⟩)), (3, .pointer (some ⟨b28, 0, none⟩)), (4, .pointer (some ⟨b35, 0, none⟩)), (18, .agg #[.slice A0_0 x0.Shape.length c0_0, .slice A0_1 x0.Data.length c0_1])] [.cell ⟨b21, 0, none⟩ (.slice A0_0 x0.Shape.length c0_0), .cell ⟨b21, 1, none⟩ (.slice A0_1 x0.Data.length c0_1)] 18 rfl (by kernel_rfl) (fun _ _ _ _ _ h => nomatch h.1) hf43 (by kernel_rfl) ⟨(hm537.cell 2 rfl rfl), (hm537.cell 2 rfl rfl), trivial⟩ fun a547 hf548 => ?_
      refine all1 1 (by kernel_rfl) ?_
      refine opOf hf548 rfl (by kernel_rfl) (aCall (fid := 53) (args := [.agg #[.slice A0_0 x0.Shape.length c0_0, .slice A0_1 x0.Data.length c0_1]]) (d := 19) hf548 (by kernel_rfl) (by kernel_rfl) callable53 (matrix_flat.calls _ _ x0 A0_0 x0.Shape.length c0_0 rfl A0_1 x0.Data.length c0_1 rfl (hm537.give [3, 4] [.sl (Kd.int .i64) A0_0 c0_0 x0.Shape, .sl Kd.float A0_1 c0_1 x0.Data] rfl rfl) r44 hr44) ?_)
      rintro _ w549 a550 ⟨rfl, hk552⟩ hf551
      refine ⟨.inr (Gr.still hk552.cum.none), ?_⟩
      have hm553 := hm537.still hk552.cum.none
      rw [c45] at hf551
      refine quiet0 [2, 3, 4, 5, 6, 7, 8, 9, 10, 11, 12, 13, 14, 15, 16, 17, 18] [] [2, 3, 4, 36] #[true, true, true, true, true, true, true, true, true, true, true, true, true, true, true, true, true, true, true] [(2, .pointer (some ⟨b21, 0, none⟩)), (3, .pointer (some ⟨b28, 0, none⟩)), (4, .pointer (some ⟨b35, 0, none⟩)), (36, .bool true)] [] 0 rfl (by kernel_rfl) (fun _ _ _ _ _ h => nomatch h.1) hf551 (by kernel_rfl) trivial fun a554 hf555 => ?_
      refine allDone (by kernel_rfl) ⟨rfl, hf555.sel (l := [2, 3, 4, 36]) (by kernel_rfl), hm553.sel [0, 1, 2, 3, 4, 5, 6] _ rfl (by kernel_rfl)⟩
    rintro a556 w557 ⟨hf558, hm559⟩
    refine thenN ?_
    refine condT hf558 (by kernel_rfl) ?_
    refine wp_seq ?_
    refine inReg ?_
    refine go 1 [] [4, 37] [(4, .pointer (some ⟨b35, 0, none⟩)), (37, .agg #[.slice none 0 0, .slice none 0 0])] [] hf558 (by kernel_rfl) trivial fun a560 hf561 => ?_
    refine listOf hf561 rfl (by kernel_rfl) (aStoreB (b := b35) (j := 0) (T := 42) (cs := [.slice none 0 0, .slice none 0 0]) (us := [.slice none 0 0, .slice none 0 0]) (cs' := [.slice none 0 0, .slice none 0 0]) hf561 (by kernel_rfl) (hm559.bxAt 0 rfl) (by kernel_rfl) (by kernel_rfl) (by kernel_rfl) ?_)
    intro w562 hx563 hg564
    have hm565 := hm559.setBox 0 _ rfl rfl hx563 hg564
    refine go 1 [] [4, 5] [(4, .pointer (some ⟨b35, 0, none⟩)), (5, .int .i64 2)] [] hf561 (by kernel_rfl) trivial fun a566 hf567 => ?_
    refine endL rfl ?_
    have hm568 := hm565.sel [0] _ rfl (by kernel_rfl)
    refine thenN ?_
    refine wp_ret ?_
    refine thenR ?_
    have hm569 : Mem [] M w0 [.ow (Kd.int .i64) 3 none 0 ([] : (List Int)), .bx b35 [.slice none 0 0, .slice none 0 0] 42] w562 := hm568.nilOw (Kd.int .i64) 3
    have hm570 : Mem [] M w0 [.ow Kd.float 47 none 0 ([] : (List Nat)), .ow (Kd.int .i64) 3 none 0 ([] : (List Int)), .bx b35 [.slice none 0 0, .slice none 0 0] 42] w562 := hm569.nilOw Kd.float 47
    have hm571 : Mem [] M w0 [.ow (Kd.int .i64) 3 none 0 ([] : (List Int)), .ow Kd.float 47 none 0 ([] : (List Nat))] w562 := hm570.sel [1, 0] _ rfl (by kernel_rfl)
    obtain rfl := Option.some.inj H0
    refine ret [.agg #[.slice none 0 0, .slice none 0 0]] [.agg #[.slice none 0 0, .slice none 0 0], .int .i64 2] [.cell ⟨b35, 0, none⟩ (.slice none 0 0), .cell ⟨b35, 1, none⟩ (.slice none 0 0)] hf567 (by kernel_rfl) ⟨(hm568.cell 0 rfl rfl), (hm568.cell 0 rfl rfl), trivial⟩ ?_
    exact ⟨_, rfl, none, 0, none, 0, rfl, hm571⟩
end Go.Proofs.Ytkcgiolledmbnaa
