/- Printed by gen.py. -/
import Derived.Test.YtkcgiolledmbnaaF3
namespace Go.Proofs.Ytkcgiolledmbnaa
open Go Go.RowKit
set_option linter.unusedSimpArgs false
set_option linter.unusedVariables false
set_option linter.unnecessarySimpa false
/-! ### backstitch/backstitchref1.Matmul -/
noncomputable def ref1_Matmul.l2 (x0 : Tensor) (s341 : (Int × (List Nat))) (x1 : Tensor) (s354 : (Int × (List Nat))) (s380 : (Int × (List Nat))) : Step (Int × (List Nat)) (Int × (List Nat)) :=
  if s380.1 < (rd x0.Shape 1) then (if 0 ≤ (w64 ((w64 (s341.1 * (rd x0.Shape 1))) + s380.1)) ∧ (w64 ((w64 (s341.1 * (rd x0.Shape 1))) + s380.1)) < (x0.Data.length : Int) then (if 0 ≤ (w64 ((w64 (s380.1 * (rd x1.Shape 1))) + s354.1)) ∧ (w64 ((w64 (s380.1 * (rd x1.Shape 1))) + s354.1)) < (x1.Data.length : Int) then (if 0 ≤ s380.1 ∧ s380.1 < (s380.2.length : Int) then (.next ((w64 (s380.1 + 1)), (put s380.2 s380.1 (fmul (rd x0.Data (w64 ((w64 (s341.1 * (rd x0.Shape 1))) + s380.1))) (rd x1.Data (w64 ((w64 (s380.1 * (rd x1.Shape 1))) + s354.1)))))))
  else .bad)
  else .bad)
  else .bad)
  else (.done (s380.1, s380.2))
noncomputable def ref1_Matmul.l1 (x1 : Tensor) (x0 : Tensor) (s341 : (Int × (List Nat))) (s354 : (Int × (List Nat))) : Step (Int × (List Nat)) (Int × (List Nat)) :=
  if s354.1 < (rd x1.Shape 1) then (if 0 ≤ (rd x0.Shape 1) ∧ (rd x0.Shape 1) ≤ 1099511627776 then (bindS (loop (ref1_Matmul.l2 x0 s341 x1 s354) (0, (List.replicate ((rd x0.Shape 1)).toNat (0 : Nat)))) fun r381 =>
  bindS (ref1_Row.f r381.2) fun r466 =>
  if 0 ≤ (w64 ((w64 (s341.1 * (rd x1.Shape 1))) + s354.1)) ∧ (w64 ((w64 (s341.1 * (rd x1.Shape 1))) + s354.1)) < (s354.2.length : Int) then (.next ((w64 (s354.1 + 1)), (put s354.2 (w64 ((w64 (s341.1 * (rd x1.Shape 1))) + s354.1)) r466)))
  else .bad)
  else .bad)
  else (.done (s354.1, s354.2))
noncomputable def ref1_Matmul.l0 (x0 : Tensor) (x1 : Tensor) (s341 : (Int × (List Nat))) : Step (Int × (List Nat)) (Int × (List Nat)) :=
  if s341.1 < (rd x0.Shape 0) then (bindS (loop (ref1_Matmul.l1 x1 x0 s341) (0, s341.2)) fun r355 =>
  .next ((w64 (s341.1 + 1)), r355.2))
  else (.done (s341.1, s341.2))
noncomputable def ref1_Matmul.f (x0 : Tensor) (x1 : Tensor) : Option (Tensor × Int) :=
  (ref1_TensorMay.f x0).bind fun r44 =>
  if r44 = true then ((ref1_TensorMay.f x1).bind fun r46 =>
  if r46 = true then (if (x0.Shape.length : Int) = 2 then (if (x1.Shape.length : Int) = 2 then (if (0 : Int) ≤ 1 ∧ 1 < (x0.Shape.length : Int) then (if (0 : Int) ≤ 0 ∧ 0 < (x1.Shape.length : Int) then (if (rd x0.Shape 1) = (rd x1.Shape 0) then (if (0 : Int) ≤ 0 ∧ 0 < (x0.Shape.length : Int) then (if (0 : Int) ≤ 1 ∧ 1 < (x1.Shape.length : Int) then ((ref1_New.f ([(rd x0.Shape 0), (rd x1.Shape 1)] : List Int) 0).bind fun r111 =>
  if r111.2 = 0 then ((loop (ref1_Matmul.l0 x0 x1) (0, r111.1.Data)).bind fun r342 =>
  some ((⟨r111.1.Shape, r342.2⟩ : Tensor), 0))
  else (some ((⟨([] : (List Int)), ([] : (List Nat))⟩ : Tensor), r111.2)))
  else none)
  else none)
  else (some ((⟨([] : (List Int)), ([] : (List Nat))⟩ : Tensor), 2)))
  else none)
  else none)
  else (some ((⟨([] : (List Int)), ([] : (List Nat))⟩ : Tensor), 2)))
  else (some ((⟨([] : (List Int)), ([] : (List Nat))⟩ : Tensor), 2)))
  else (some ((⟨([] : (List Int)), ([] : (List Nat))⟩ : Tensor), 2)))
  else (some ((⟨([] : (List Int)), ([] : (List Nat))⟩ : Tensor), 2))
set_option maxRecDepth 100000 in
set_option maxHeartbeats 4000000 in
theorem ref1_Matmul.calls (M : List (Option Nat)) (w0 : World) (x0 : Tensor) (A0_0 : Option Addr) (n0_0 c0_0 : Nat) (e0_0 : n0_0 = x0.Shape.length) (A0_1 : Option Addr) (n0_1 c0_1 : Nat) (e0_1 : n0_1 = x0.Data.length) (x1 : Tensor) (A1_0 : Option Addr) (n1_0 c1_0 : Nat) (e1_0 : n1_0 = x1.Shape.length) (A1_1 : Option Addr) (n1_1 c1_1 : Nat) (e1_1 : n1_1 = x1.Data.length) (hm0 : Mem [] M w0 [.sl (Kd.int .i64) A0_0 c0_0 x0.Shape, .sl Kd.float A0_1 c0_1 x0.Data, .sl (Kd.int .i64) A1_0 c1_0 x1.Shape, .sl Kd.float A1_1 c1_1 x1.Data] w0) (r : (Tensor × Int)) (H0 : ref1_Matmul.f x0 x1 = some r) :
    Calls Try.prog 44 [.agg #[.slice A0_0 n0_0 c0_0, .slice A0_1 n0_1 c0_1], .agg #[.slice A1_0 n1_0 c1_0, .slice A1_1 n1_1 c1_1]].toArray w0 (fun x w' => ∃ v, x = .returned v ∧ ∃ Ar0_0 cr0_0 Ar0_1 cr0_1, v = .tuple #[.agg #[.slice Ar0_0 r.1.Shape.length cr0_0, .slice Ar0_1 r.1.Data.length cr0_1], .int .i64 r.2] ∧ Mem [] M w0 [.ow (Kd.int .i64) 3 Ar0_0 cr0_0 r.1.Shape, .ow Kd.float 47 Ar0_1 cr0_1 r.1.Data] w') := by
  subst e0_0
  subst e0_1
  subst e1_0
  subst e1_1
  unfold ref1_Matmul.f at H0
  refine enter (n := 124) Try.func44 rfl rfl (by kernel_rfl) fun a0 (hf0 : Fr 124 a0 [(0, .agg #[.slice A0_0 x0.Shape.length c0_0, .slice A0_1 x0.Data.length c0_1]), (1, .agg #[.slice A1_0 x1.Shape.length c1_0, .slice A1_1 x1.Data.length c1_1])]) => ?_
  refine wp_seq ?_
  refine inReg ?_
  refine listOf hf0 rfl (by kernel_rfl) (aNew (cs := [.slice A0_0 x0.Shape.length c0_0, .slice A0_1 x0.Data.length c0_1]) (T := 42) (d := 2) hf0 (by kernel_rfl) (by kernel_rfl) ?_)
  intro b21 w22 a23 hbb21 hx25 hg26 hf24
  have hm27 : Mem [] M w0 [.bx b21 [.slice A0_0 x0.Shape.length c0_0, .slice A0_1 x0.Data.length c0_1] 42, .sl (Kd.int .i64) A0_0 c0_0 x0.Shape, .sl Kd.float A0_1 c0_1 x0.Data, .sl (Kd.int .i64) A1_0 c1_0 x1.Shape, .sl Kd.float A1_1 c1_1 x1.Data] w22 := hm0.box hbb21 hx25 hg26
  refine listOf hf24 rfl (by kernel_rfl) (aNew (cs := [.slice A1_0 x1.Shape.length c1_0, .slice A1_1 x1.Data.length c1_1]) (T := 42) (d := 3) hf24 (by kernel_rfl) (by kernel_rfl) ?_)
  intro b28 w29 a30 hbb28 hx32 hg33 hf31
  have hm34 : Mem [] M w0 [.bx b28 [.slice A1_0 x1.Shape.length c1_0, .slice A1_1 x1.Data.length c1_1] 42, .bx b21 [.slice A0_0 x0.Shape.length c0_0, .slice A0_1 x0.Data.length c0_1] 42, .sl (Kd.int .i64) A0_0 c0_0 x0.Shape, .sl Kd.float A0_1 c0_1 x0.Data, .sl (Kd.int .i64) A1_0 c1_0 x1.Shape, .sl Kd.float A1_1 c1_1 x1.Data] w29 := hm27.box hbb28 hx32 hg33
  refine listOf hf31 rfl (by kernel_rfl) (aNew (cs := [.slice none 0 0, .slice none 0 0]) (T := 42) (d := 4) hf31 (by kernel_rfl) (by kernel_rfl) ?_)
  intro b35 w36 a37 hbb35 hx39 hg40 hf38
  have hm41 : Mem [] M w0 [.bx b35 [.slice none 0 0, .slice none 0 0] 42, .bx b28 [.slice A1_0 x1.Shape.length c1_0, .slice A1_1 x1.Data.length c1_1] 42, .bx b21 [.slice A0_0 x0.Shape.length c0_0, .slice A0_1 x0.Data.length c0_1] 42, .sl (Kd.int .i64) A0_0 c0_0 x0.Shape, .sl Kd.float A0_1 c0_1 x0.Data, .sl (Kd.int .i64) A1_0 c1_0 x1.Shape, .sl Kd.float A1_1 c1_1 x1.Data] w36 := hm34.box hbb35 hx39 hg40
  refine go 1 [] [2, 3, 4] [(2, .pointer (some ⟨b21, 0, none⟩)), (3, .pointer (some ⟨b28, 0, none⟩)), (4, .pointer (some ⟨b35, 0, none⟩))] [] hf38 (by kernel_rfl) trivial fun a42 hf43 => ?_
  refine endL rfl ?_
  refine thenN ?_
  refine wp_seq ?_
  refine wp_seq ?_
  obtain ⟨r44, hr44, H0⟩ := ob_split H0
  rcases ifb_split H0 with ⟨c45, H0⟩ | ⟨c45, H0⟩
  · obtain ⟨r46, hr46, H0⟩ := ob_split H0
    rcases ifb_split H0 with ⟨c47, H0⟩ | ⟨c47, H0⟩
    · rcases if_split H0 with ⟨c48, H0⟩ | ⟨c48, H0⟩
      · rcases if_split H0 with ⟨c49, H0⟩ | ⟨c49, H0⟩
        · obtain ⟨g50, H0⟩ := if_guard H0
          obtain ⟨g51, H0⟩ := if_guard H0
          rcases if_split H0 with ⟨c52, H0⟩ | ⟨c52, H0⟩
          · refine midReg (fun (a : Act) (w : World) => Fr 124 a [(2, .pointer (some ⟨b21, 0, none⟩)), (3, .pointer (some ⟨b28, 0, none⟩)), (4, .pointer (some ⟨b35, 0, none⟩)), (44, .bool false)] ∧ Mem [] M w0 [.bx b35 [.slice none 0 0, .slice none 0 0] 42, .bx b28 [.slice A1_0 x1.Shape.length c1_0, .slice A1_1 x1.Data.length c1_1] 42, .bx b21 [.slice A0_0 x0.Shape.length c0_0, .slice A0_1 x0.Data.length c0_1] 42, .sl (Kd.int .i64) A0_0 c0_0 x0.Shape, .sl Kd.float A0_1 c0_1 x0.Data, .sl (Kd.int .i64) A1_0 c1_0 x1.Shape, .sl Kd.float A1_1 c1_1 x1.Data] w) ?_ ?_
            · refine anyG [] (by kernel_rfl) fun w66 hg67 => ?_
              have hm68 : Mem [] M w0 [.bx b35 [.slice none 0 0, .slice none 0 0] 42, .bx b28 [.slice A1_0 x1.Shape.length c1_0, .slice A1_1 x1.Data.length c1_1] 42, .bx b21 [.slice A0_0 x0.Shape.length c0_0, .slice A0_1 x0.Data.length c0_1] 42, .sl (Kd.int .i64) A0_0 c0_0 x0.Shape, .sl Kd.float A0_1 c0_1 x0.Data, .sl (Kd.int .i64) A1_0 c1_0 x1.Shape, .sl Kd.float A1_1 c1_1 x1.Data] w66 := hm41.still hg67
              refine quiet0 [0] [.agg #[.slice A0_0 x0.Shape.length c0_0, .slice A0_1 x0.Data.length c0_1]] [2, 3, 4, 14] #[true, false, false, false, false, false, false, false, false, false, false, false, false, false, false, false, false, false, false, false, false, false, false, false, false, false, false, false, false, false, false] [(2, .pointer (some ⟨b21, 0, none⟩)), (3, .pointer (some ⟨b28, 0, none⟩)), (4, .pointer (some ⟨b35, 0, none⟩)), (14, .agg #[.slice A0_0 x0.Shape.length c0_0, .slice A0_1 x0.Data.length c0_1])] [.cell ⟨b21, 0, none⟩ (.slice A0_0 x0.Shape.length c0_0), .cell ⟨b21, 1, none⟩ (.slice A0_1 x0.Data.length c0_1)] 30 rfl (by kernel_rfl) (fun _ _ _ _ _ h => nomatch h.1) hf43 (by kernel_rfl) ⟨(hm68.cell 2 rfl rfl), (hm68.cell 2 rfl rfl), trivial⟩ fun a87 hf88 => ?_
              refine all1 1 (by kernel_rfl) ?_
              refine opOf hf88 rfl (by kernel_rfl) (aCall (fid := 41) (args := [.agg #[.slice A0_0 x0.Shape.length c0_0, .slice A0_1 x0.Data.length c0_1]]) (d := 15) hf88 (by kernel_rfl) (by kernel_rfl) callable41 (ref1_TensorMay.calls _ _ x0 A0_0 x0.Shape.length c0_0 rfl A0_1 x0.Data.length c0_1 rfl (hm68.give [3, 4] [.sl (Kd.int .i64) A0_0 c0_0 x0.Shape, .sl Kd.float A0_1 c0_1 x0.Data] rfl rfl) r44 hr44) ?_)
              rintro _ w89 a90 ⟨rfl, hk92⟩ hf91
              refine ⟨.inr (Gr.still hk92.cum.none), ?_⟩
              have hm93 : Mem [] M w0 [.bx b35 [.slice none 0 0, .slice none 0 0] 42, .bx b28 [.slice A1_0 x1.Shape.length c1_0, .slice A1_1 x1.Data.length c1_1] 42, .bx b21 [.slice A0_0 x0.Shape.length c0_0, .slice A0_1 x0.Data.length c0_1] 42, .sl (Kd.int .i64) A0_0 c0_0 x0.Shape, .sl Kd.float A0_1 c0_1 x0.Data, .sl (Kd.int .i64) A1_0 c1_0 x1.Shape, .sl Kd.float A1_1 c1_1 x1.Data] w89 := hm68.still hk92.cum.none
              rw [c45] at hf91
              refine quiet0 [2, 3, 4] [.agg #[.slice A1_0 x1.Shape.length c1_0, .slice A1_1 x1.Data.length c1_1]] [2, 3, 4, 17, 18] #[true, true, true, true, true, false, false, false, false, false, false, false, false, false, false, false, false, false, false, false, false, false, false, false, false, false, false, false, false, false, false] [(2, .pointer (some ⟨b21, 0, none⟩)), (3, .pointer (some ⟨b28, 0, none⟩)), (4, .pointer (some ⟨b35, 0, none⟩)), (17, .bool false), (18, .agg #[.slice A1_0 x1.Shape.length c1_0, .slice A1_1 x1.Data.length c1_1])] [.cell ⟨b28, 0, none⟩ (.slice A1_0 x1.Shape.length c1_0), .cell ⟨b28, 1, none⟩ (.slice A1_1 x1.Data.length c1_1)] 26 rfl (by kernel_rfl) (fun _ _ _ _ _ h => nomatch h.1) hf91 (by kernel_rfl) ⟨(hm93.cell 1 rfl rfl), (hm93.cell 1 rfl rfl), trivial⟩ fun a94 hf95 => ?_
              refine all1 5 (by kernel_rfl) ?_
              refine opOf hf95 rfl (by kernel_rfl) (aCall (fid := 41) (args := [.agg #[.slice A1_0 x1.Shape.length c1_0, .slice A1_1 x1.Data.length c1_1]]) (d := 19) hf95 (by kernel_rfl) (by kernel_rfl) callable41 (ref1_TensorMay.calls _ _ x1 A1_0 x1.Shape.length c1_0 rfl A1_1 x1.Data.length c1_1 rfl (hm93.give [5, 6] [.sl (Kd.int .i64) A1_0 c1_0 x1.Shape, .sl Kd.float A1_1 c1_1 x1.Data] rfl rfl) r46 hr46) ?_)
              rintro _ w96 a97 ⟨rfl, hk99⟩ hf98
              refine ⟨.inr (Gr.still hk99.cum.none), ?_⟩
              have hm100 : Mem [] M w0 [.bx b35 [.slice none 0 0, .slice none 0 0] 42, .bx b28 [.slice A1_0 x1.Shape.length c1_0, .slice A1_1 x1.Data.length c1_1] 42, .bx b21 [.slice A0_0 x0.Shape.length c0_0, .slice A0_1 x0.Data.length c0_1] 42, .sl (Kd.int .i64) A0_0 c0_0 x0.Shape, .sl Kd.float A0_1 c0_1 x0.Data, .sl (Kd.int .i64) A1_0 c1_0 x1.Shape, .sl Kd.float A1_1 c1_1 x1.Data] w96 := hm93.still hk99.cum.none
              rw [c47] at hf98
              have q101 := (hm100.slAt 3 rfl).int 1 g50.1 g50.2
              have q102 := (hm100.slAt 5 rfl).int 0 g51.1 g51.2
              refine quiet0 [6, 7, 8, 9, 10, 11, 12, 13, 14, 15, 16, 17, 18, 19, 20, 21, 22, 23, 24, 25, 26, 27, 28, 29, 30] [.slice A0_0 x0.Shape.length c0_0, .bool false, .slice A1_0 x1.Shape.length c1_0, .bool false, .slice A0_0 x0.Shape.length c0_0, .int .i64 (rd x0.Shape 1), .slice A1_0 x1.Shape.length c1_0, .int .i64 (rd x1.Shape 0), .bool false] [2, 3, 4, 44] #[true, true, true, true, true, true, true, true, true, true, true, true, true, true, true, true, true, true, true, true, true, true, true, true, true, true, true, true, true, true, true] [(2, .pointer (some ⟨b21, 0, none⟩)), (3, .pointer (some ⟨b28, 0, none⟩)), (4, .pointer (some ⟨b35, 0, none⟩)), (44, .bool false)] [.cell ⟨b21, 0, none⟩ (.slice A0_0 x0.Shape.length c0_0), .is ((((x0.Shape.length : Int) : Int) != 2) = false), .cell ⟨b28, 0, none⟩ (.slice A1_0 x1.Shape.length c1_0), .is ((((x1.Shape.length : Int) : Int) != 2) = false), .cell ⟨b21, 0, none⟩ (.slice A0_0 x0.Shape.length c0_0), .is (Option.isSome A0_0 = true), .is ((0 : Int) ≤ 1 ∧ 1 < (x0.Shape.length : Int)), .cell ((ad A0_0).add ((1 : Int).toNat * 1)) (.int .i64 (rd x0.Shape 1)), .cell ⟨b28, 0, none⟩ (.slice A1_0 x1.Shape.length c1_0), .is (Option.isSome A1_0 = true), .is ((0 : Int) ≤ 0 ∧ 0 < (x1.Shape.length : Int)), .cell ((ad A1_0).add ((0 : Int).toNat * 1)) (.int .i64 (rd x1.Shape 0)), .is ((((rd x0.Shape 1) : Int) != (rd x1.Shape 0)) = false)] 0 rfl (by kernel_rfl) (fun _ _ _ _ _ h => nomatch h.1) hf98 (by kernel_rfl) ⟨(hm100.cell 2 rfl rfl), (neF c48), (hm100.cell 1 rfl rfl), (neF c49), (hm100.cell 2 rfl rfl), q101.1, g50, q101.2, (hm100.cell 1 rfl rfl), q102.1, g51, q102.2, (neF c52), trivial⟩ fun a103 hf104 => ?_
              refine allDone (by kernel_rfl) ⟨rfl, hf104.sel (l := [2, 3, 4, 44]) (by kernel_rfl), hm100.sel [0, 1, 2, 3, 4, 5, 6] _ rfl (by kernel_rfl)⟩
            rintro a105 w106 ⟨hf107, hm108⟩
            refine thenN ?_
            refine condF hf107 (by kernel_rfl) ?_
            refine wp_skip ?_
            refine thenN ?_
            refine wp_seq ?_
            obtain ⟨g109, H0⟩ := if_guard H0
            obtain ⟨g110, H0⟩ := if_guard H0
            obtain ⟨r111, hr111, H0⟩ := ob_split H0
            refine midReg (fun (a : Act) (w : World) => ∃ (b130 : Nat) (A121 : Option Addr) (c122 : Nat) (A123 : Option Addr) (c124 : Nat), Fr 124 a [(2, .pointer (some ⟨b21, 0, none⟩)), (3, .pointer (some ⟨b28, 0, none⟩)), (4, .pointer (some ⟨b35, 0, none⟩)), (6, .pointer (some ⟨b130, 0, none⟩)), (7, .int .i64 r111.2)] ∧ Mem [] M w0 [.bx b130 [.slice A121 r111.1.Shape.length c122, .slice A123 r111.1.Data.length c124] 42, .ow (Kd.int .i64) 3 A121 c122 r111.1.Shape, .ow Kd.float 47 A123 c124 r111.1.Data, .bx b35 [.slice none 0 0, .slice none 0 0] 42, .bx b28 [.slice A1_0 x1.Shape.length c1_0, .slice A1_1 x1.Data.length c1_1] 42, .bx b21 [.slice A0_0 x0.Shape.length c0_0, .slice A0_1 x0.Data.length c0_1] 42, .sl (Kd.int .i64) A0_0 c0_0 x0.Shape, .sl Kd.float A0_1 c0_1 x0.Data, .sl (Kd.int .i64) A1_0 c1_0 x1.Shape, .sl Kd.float A1_1 c1_1 x1.Data] w) ?_ ?_
            · refine anyG [14] (by kernel_rfl) fun w142 hg143 => ?_
              have hm144 : Mem [] M w0 [.bx b35 [.slice none 0 0, .slice none 0 0] 42, .bx b28 [.slice A1_0 x1.Shape.length c1_0, .slice A1_1 x1.Data.length c1_1] 42, .bx b21 [.slice A0_0 x0.Shape.length c0_0, .slice A0_1 x0.Data.length c0_1] 42, .sl (Kd.int .i64) A0_0 c0_0 x0.Shape, .sl Kd.float A0_1 c0_1 x0.Data, .sl (Kd.int .i64) A1_0 c1_0 x1.Shape, .sl Kd.float A1_1 c1_1 x1.Data] w142 := hm108.still hg143
              have q235 := (hm144.slAt 3 rfl).int 0 g109.1 g109.2
              have q236 := (hm144.slAt 5 rfl).int 1 g110.1 g110.2
              refine quiet0 [0, 1, 2, 3, 4, 5, 6, 7] [.slice A0_0 x0.Shape.length c0_0, .int .i64 (rd x0.Shape 0), .slice A1_0 x1.Shape.length c1_0, .int .i64 (rd x1.Shape 1)] [2, 3, 4, 50, 54] #[true, true, true, true, true, true, true, true, false, false, false, false, false, false, false, false] [(2, .pointer (some ⟨b21, 0, none⟩)), (3, .pointer (some ⟨b28, 0, none⟩)), (4, .pointer (some ⟨b35, 0, none⟩)), (50, .int .i64 (rd x0.Shape 0)), (54, .int .i64 (rd x1.Shape 1))] [.cell ⟨b21, 0, none⟩ (.slice A0_0 x0.Shape.length c0_0), .is (Option.isSome A0_0 = true), .is ((0 : Int) ≤ 0 ∧ 0 < (x0.Shape.length : Int)), .cell ((ad A0_0).add ((0 : Int).toNat * 1)) (.int .i64 (rd x0.Shape 0)), .cell ⟨b28, 0, none⟩ (.slice A1_0 x1.Shape.length c1_0), .is (Option.isSome A1_0 = true), .is ((0 : Int) ≤ 1 ∧ 1 < (x1.Shape.length : Int)), .cell ((ad A1_0).add ((1 : Int).toNat * 1)) (.int .i64 (rd x1.Shape 1))] 8 rfl (by kernel_rfl) (fun _ _ _ _ _ h => nomatch h.1) hf107 (by kernel_rfl) ⟨(hm144.cell 2 rfl rfl), q235.1, g109, q235.2, (hm144.cell 1 rfl rfl), q236.1, g110, q236.2, trivial⟩ fun a237 hf238 => ?_
              refine all2 8 13 (by kernel_rfl) ?_ ?_
              · refine opOf hf238 rfl (by kernel_rfl) (aLit (cs := [.int .i64 (rd x0.Shape 0), .int .i64 (rd x1.Shape 1)]) (E := 3) (len := 2) (d := 55) hf238 (by kernel_rfl) (by kernel_rfl) ?_)
                intro b239 w240 a241 hbb239 hx243 hg244 hf242
                refine ⟨.inr (Gr.still hg244), ?_⟩
                have hm144s := hm144.still hg244
                have hm245 : Mem [] M w0 [.sl (Kd.int .i64) (some ⟨b239, 0, none⟩) 2 ([(rd x0.Shape 0), (rd x1.Shape 1)] : List Int), .bx b35 [.slice none 0 0, .slice none 0 0] 42, .bx b28 [.slice A1_0 x1.Shape.length c1_0, .slice A1_1 x1.Data.length c1_1] 42, .bx b21 [.slice A0_0 x0.Shape.length c0_0, .slice A0_1 x0.Data.length c0_1] 42, .sl (Kd.int .i64) A0_0 c0_0 x0.Shape, .sl Kd.float A0_1 c0_1 x0.Data, .sl (Kd.int .i64) A1_0 c1_0 x1.Shape, .sl Kd.float A1_1 c1_1 x1.Data] w240 := Mem.lit (kd := (Kd.int .i64)) (xs := ([(rd x0.Shape 0), (rd x1.Shape 1)] : List Int)) hm144 hbb239 hx243 hg244 (Els.append (Els.one (kd := (Kd.int .i64)) (us := [.int .i64 (rd x0.Shape 0)]) (x := (rd x0.Shape 0)) rfl) (Els.one (kd := (Kd.int .i64)) (us := [.int .i64 (rd x1.Shape 1)]) (x := (rd x1.Shape 1)) rfl))
                refine all2 9 13 (by kernel_rfl) ?_ ?_
                · refine opOf hf242 rfl (by kernel_rfl) (aCall (fid := 42) (args := [.slice (some ⟨b239, 0, none⟩) 2 2, .float .f64 0]) (d := 56) hf242 (by kernel_rfl) (by kernel_rfl) callable42 (ref1_New.calls _ _ ([(rd x0.Shape 0), (rd x1.Shape 1)] : List Int) (some ⟨b239, 0, none⟩) 2 2 rfl 0 0 ((FR.lit (by kernel_rfl) (by kernel_rfl))) (hm245.give [0] [.sl (Kd.int .i64) (some ⟨b239, 0, none⟩) 2 ([(rd x0.Shape 0), (rd x1.Shape 1)] : List Int)] rfl rfl) r111 hr111) ?_)
                  rintro _ w250 a251 ⟨A246, c247, A248, c249, rfl, hk253⟩ hf252
                  refine ⟨.inr (Gr.still hk253.cum.none), ?_⟩
                  have hm254 : Mem [] M w0 [.ow (Kd.int .i64) 3 A246 c247 r111.1.Shape, .ow Kd.float 47 A248 c249 r111.1.Data, .sl (Kd.int .i64) (some ⟨b239, 0, none⟩) 2 ([(rd x0.Shape 0), (rd x1.Shape 1)] : List Int), .bx b35 [.slice none 0 0, .slice none 0 0] 42, .bx b28 [.slice A1_0 x1.Shape.length c1_0, .slice A1_1 x1.Data.length c1_1] 42, .bx b21 [.slice A0_0 x0.Shape.length c0_0, .slice A0_1 x0.Data.length c0_1] 42, .sl (Kd.int .i64) A0_0 c0_0 x0.Shape, .sl Kd.float A0_1 c0_1 x0.Data, .sl (Kd.int .i64) A1_0 c1_0 x1.Shape, .sl Kd.float A1_1 c1_1 x1.Data] w250 := hm245.back hk253
                  refine quiet0 [10, 11, 12] [] [2, 3, 4, 57, 58] #[true, true, true, true, true, true, true, true, true, true, true, true, true, false, false, false] [(2, .pointer (some ⟨b21, 0, none⟩)), (3, .pointer (some ⟨b28, 0, none⟩)), (4, .pointer (some ⟨b35, 0, none⟩)), (57, .agg #[.slice A246 r111.1.Shape.length c247, .slice A248 r111.1.Data.length c249]), (58, .int .i64 r111.2)] [] 3 rfl (by kernel_rfl) (fun _ _ _ _ _ h => nomatch h.1) hf252 (by kernel_rfl) trivial fun a255 hf256 => ?_
                  refine all1 13 (by kernel_rfl) ?_
                  refine opOf hf256 rfl (by kernel_rfl) (aNew (cs := [.slice none 0 0, .slice none 0 0]) (T := 42) (d := 6) hf256 (by kernel_rfl) (by kernel_rfl) ?_)
                  intro b257 w258 a259 hbb257 hx261 hg262 hf260
                  refine ⟨.inr (Gr.still hg262), ?_⟩
                  have hm263 : Mem [] M w0 [.bx b257 [.slice none 0 0, .slice none 0 0] 42, .ow (Kd.int .i64) 3 A246 c247 r111.1.Shape, .ow Kd.float 47 A248 c249 r111.1.Data, .sl (Kd.int .i64) (some ⟨b239, 0, none⟩) 2 ([(rd x0.Shape 0), (rd x1.Shape 1)] : List Int), .bx b35 [.slice none 0 0, .slice none 0 0] 42, .bx b28 [.slice A1_0 x1.Shape.length c1_0, .slice A1_1 x1.Data.length c1_1] 42, .bx b21 [.slice A0_0 x0.Shape.length c0_0, .slice A0_1 x0.Data.length c0_1] 42, .sl (Kd.int .i64) A0_0 c0_0 x0.Shape, .sl Kd.float A0_1 c0_1 x0.Data, .sl (Kd.int .i64) A1_0 c1_0 x1.Shape, .sl Kd.float A1_1 c1_1 x1.Data] w258 := hm254.box hbb257 hx261 hg262
                  refine all1 14 (by kernel_rfl) ?_
                  refine opOf hf260 rfl (by kernel_rfl) (aStoreB (b := b257) (j := 0) (T := 42) (cs := [.slice none 0 0, .slice none 0 0]) (us := [.slice A246 r111.1.Shape.length c247, .slice A248 r111.1.Data.length c249]) (cs' := [.slice A246 r111.1.Shape.length c247, .slice A248 r111.1.Data.length c249]) hf260 (by kernel_rfl) (hm263.bxAt 0 rfl) (by kernel_rfl) (by kernel_rfl) (by kernel_rfl) ?_)
                  intro w264 hx265 hg266
                  refine ⟨.inl (by decide), ?_⟩
                  have hm267 : Mem [] M w0 [.bx b257 [.slice A246 r111.1.Shape.length c247, .slice A248 r111.1.Data.length c249] 42, .ow (Kd.int .i64) 3 A246 c247 r111.1.Shape, .ow Kd.float 47 A248 c249 r111.1.Data, .sl (Kd.int .i64) (some ⟨b239, 0, none⟩) 2 ([(rd x0.Shape 0), (rd x1.Shape 1)] : List Int), .bx b35 [.slice none 0 0, .slice none 0 0] 42, .bx b28 [.slice A1_0 x1.Shape.length c1_0, .slice A1_1 x1.Data.length c1_1] 42, .bx b21 [.slice A0_0 x0.Shape.length c0_0, .slice A0_1 x0.Data.length c0_1] 42, .sl (Kd.int .i64) A0_0 c0_0 x0.Shape, .sl Kd.float A0_1 c0_1 x0.Data, .sl (Kd.int .i64) A1_0 c1_0 x1.Shape, .sl Kd.float A1_1 c1_1 x1.Data] w264 := hm263.setBox 0 _ rfl rfl hx265 hg266
                  refine quiet0 [15] [] [2, 3, 4, 6, 7] #[true, true, true, true, true, true, true, true, true, true, true, true, true, true, true, true] [(2, .pointer (some ⟨b21, 0, none⟩)), (3, .pointer (some ⟨b28, 0, none⟩)), (4, .pointer (some ⟨b35, 0, none⟩)), (6, .pointer (some ⟨b257, 0, none⟩)), (7, .int .i64 r111.2)] [] 0 rfl (by kernel_rfl) (fun _ _ _ _ _ h => nomatch h.1) hf260 (by kernel_rfl) trivial fun a268 hf269 => ?_
                  refine allDone (by kernel_rfl) ⟨rfl, b257, A246, c247, A248, c249, hf269.sel (l := [2, 3, 4, 6, 7]) (by kernel_rfl), hm267.sel [0, 1, 2, 4, 5, 6, 7, 8, 9, 10] _ rfl (by kernel_rfl)⟩
                · refine opOf hf242 rfl (by kernel_rfl) (aNew (cs := [.slice none 0 0, .slice none 0 0]) (T := 42) (d := 6) hf242 (by kernel_rfl) (by kernel_rfl) ?_)
                  intro b270 w271 a272 hbb270 hx274 hg275 hf273
                  refine ⟨.inr (Gr.still hg275), ?_⟩
                  have hm276 : Mem [] M w0 [.bx b270 [.slice none 0 0, .slice none 0 0] 42, .sl (Kd.int .i64) (some ⟨b239, 0, none⟩) 2 ([(rd x0.Shape 0), (rd x1.Shape 1)] : List Int), .bx b35 [.slice none 0 0, .slice none 0 0] 42, .bx b28 [.slice A1_0 x1.Shape.length c1_0, .slice A1_1 x1.Data.length c1_1] 42, .bx b21 [.slice A0_0 x0.Shape.length c0_0, .slice A0_1 x0.Data.length c0_1] 42, .sl (Kd.int .i64) A0_0 c0_0 x0.Shape, .sl Kd.float A0_1 c0_1 x0.Data, .sl (Kd.int .i64) A1_0 c1_0 x1.Shape, .sl Kd.float A1_1 c1_1 x1.Data] w271 := hm245.box hbb270 hx274 hg275
                  refine all1 9 (by kernel_rfl) ?_
                  refine opOf hf273 rfl (by kernel_rfl) (aCall (fid := 42) (args := [.slice (some ⟨b239, 0, none⟩) 2 2, .float .f64 0]) (d := 56) hf273 (by kernel_rfl) (by kernel_rfl) callable42 (ref1_New.calls _ _ ([(rd x0.Shape 0), (rd x1.Shape 1)] : List Int) (some ⟨b239, 0, none⟩) 2 2 rfl 0 0 ((FR.lit (by kernel_rfl) (by kernel_rfl))) (hm276.give [1] [.sl (Kd.int .i64) (some ⟨b239, 0, none⟩) 2 ([(rd x0.Shape 0), (rd x1.Shape 1)] : List Int)] rfl rfl) r111 hr111) ?_)
                  rintro _ w281 a282 ⟨A277, c278, A279, c280, rfl, hk284⟩ hf283
                  refine ⟨.inr (Gr.still hk284.cum.none), ?_⟩
                  have hm285 : Mem [] M w0 [.ow (Kd.int .i64) 3 A277 c278 r111.1.Shape, .ow Kd.float 47 A279 c280 r111.1.Data, .bx b270 [.slice none 0 0, .slice none 0 0] 42, .sl (Kd.int .i64) (some ⟨b239, 0, none⟩) 2 ([(rd x0.Shape 0), (rd x1.Shape 1)] : List Int), .bx b35 [.slice none 0 0, .slice none 0 0] 42, .bx b28 [.slice A1_0 x1.Shape.length c1_0, .slice A1_1 x1.Data.length c1_1] 42, .bx b21 [.slice A0_0 x0.Shape.length c0_0, .slice A0_1 x0.Data.length c0_1] 42, .sl (Kd.int .i64) A0_0 c0_0 x0.Shape, .sl Kd.float A0_1 c0_1 x0.Data, .sl (Kd.int .i64) A1_0 c1_0 x1.Shape, .sl Kd.float A1_1 c1_1 x1.Data] w281 := hm276.back hk284
                  refine quiet0 [10, 11, 12] [] [2, 3, 4, 6, 57, 58] #[true, true, true, true, true, true, true, true, true, true, true, true, true, true, false, false] [(2, .pointer (some ⟨b21, 0, none⟩)), (3, .pointer (some ⟨b28, 0, none⟩)), (4, .pointer (some ⟨b35, 0, none⟩)), (6, .pointer (some ⟨b270, 0, none⟩)), (57, .agg #[.slice A277 r111.1.Shape.length c278, .slice A279 r111.1.Data.length c280]), (58, .int .i64 r111.2)] [] 2 rfl (by kernel_rfl) (fun _ _ _ _ _ h => nomatch h.1) hf283 (by kernel_rfl) trivial fun a286 hf287 => ?_
                  refine all1 14 (by kernel_rfl) ?_
                  refine opOf hf287 rfl (by kernel_rfl) (aStoreB (b := b270) (j := 0) (T := 42) (cs := [.slice none 0 0, .slice none 0 0]) (us := [.slice A277 r111.1.Shape.length c278, .slice A279 r111.1.Data.length c280]) (cs' := [.slice A277 r111.1.Shape.length c278, .slice A279 r111.1.Data.length c280]) hf287 (by kernel_rfl) (hm285.bxAt 2 rfl) (by kernel_rfl) (by kernel_rfl) (by kernel_rfl) ?_)
                  intro w288 hx289 hg290
                  refine ⟨.inl (by decide), ?_⟩
                  have hm291 : Mem [] M w0 [.ow (Kd.int .i64) 3 A277 c278 r111.1.Shape, .ow Kd.float 47 A279 c280 r111.1.Data, .bx b270 [.slice A277 r111.1.Shape.length c278, .slice A279 r111.1.Data.length c280] 42, .sl (Kd.int .i64) (some ⟨b239, 0, none⟩) 2 ([(rd x0.Shape 0), (rd x1.Shape 1)] : List Int), .bx b35 [.slice none 0 0, .slice none 0 0] 42, .bx b28 [.slice A1_0 x1.Shape.length c1_0, .slice A1_1 x1.Data.length c1_1] 42, .bx b21 [.slice A0_0 x0.Shape.length c0_0, .slice A0_1 x0.Data.length c0_1] 42, .sl (Kd.int .i64) A0_0 c0_0 x0.Shape, .sl Kd.float A0_1 c0_1 x0.Data, .sl (Kd.int .i64) A1_0 c1_0 x1.Shape, .sl Kd.float A1_1 c1_1 x1.Data] w288 := hm285.setBox 2 _ rfl rfl hx289 hg290
                  refine quiet0 [15] [] [2, 3, 4, 6, 7] #[true, true, true, true, true, true, true, true, true, true, true, true, true, true, true, true] [(2, .pointer (some ⟨b21, 0, none⟩)), (3, .pointer (some ⟨b28, 0, none⟩)), (4, .pointer (some ⟨b35, 0, none⟩)), (6, .pointer (some ⟨b270, 0, none⟩)), (7, .int .i64 r111.2)] [] 0 rfl (by kernel_rfl) (fun _ _ _ _ _ h => nomatch h.1) hf287 (by kernel_rfl) trivial fun a292 hf293 => ?_
                  refine allDone (by kernel_rfl) ⟨rfl, b270, A277, c278, A279, c280, hf293.sel (l := [2, 3, 4, 6, 7]) (by kernel_rfl), hm291.sel [2, 0, 1, 4, 5, 6, 7, 8, 9, 10] _ rfl (by kernel_rfl)⟩
              · refine opOf hf238 rfl (by kernel_rfl) (aNew (cs := [.slice none 0 0, .slice none 0 0]) (T := 42) (d := 6) hf238 (by kernel_rfl) (by kernel_rfl) ?_)
                intro b294 w295 a296 hbb294 hx298 hg299 hf297
                refine ⟨.inr (Gr.still hg299), ?_⟩
                have hm300 : Mem [] M w0 [.bx b294 [.slice none 0 0, .slice none 0 0] 42, .bx b35 [.slice none 0 0, .slice none 0 0] 42, .bx b28 [.slice A1_0 x1.Shape.length c1_0, .slice A1_1 x1.Data.length c1_1] 42, .bx b21 [.slice A0_0 x0.Shape.length c0_0, .slice A0_1 x0.Data.length c0_1] 42, .sl (Kd.int .i64) A0_0 c0_0 x0.Shape, .sl Kd.float A0_1 c0_1 x0.Data, .sl (Kd.int .i64) A1_0 c1_0 x1.Shape, .sl Kd.float A1_1 c1_1 x1.Data] w295 := hm144.box hbb294 hx298 hg299
                refine all1 8 (by kernel_rfl) ?_
                refine opOf hf297 rfl (by kernel_rfl) (aLit (cs := [.int .i64 (rd x0.Shape 0), .int .i64 (rd x1.Shape 1)]) (E := 3) (len := 2) (d := 55) hf297 (by kernel_rfl) (by kernel_rfl) ?_)
                intro b301 w302 a303 hbb301 hx305 hg306 hf304
                refine ⟨.inr (Gr.still hg306), ?_⟩
                have hm300s := hm300.still hg306
                have hm307 : Mem [] M w0 [.sl (Kd.int .i64) (some ⟨b301, 0, none⟩) 2 ([(rd x0.Shape 0), (rd x1.Shape 1)] : List Int), .bx b294 [.slice none 0 0, .slice none 0 0] 42, .bx b35 [.slice none 0 0, .slice none 0 0] 42, .bx b28 [.slice A1_0 x1.Shape.length c1_0, .slice A1_1 x1.Data.length c1_1] 42, .bx b21 [.slice A0_0 x0.Shape.length c0_0, .slice A0_1 x0.Data.length c0_1] 42, .sl (Kd.int .i64) A0_0 c0_0 x0.Shape, .sl Kd.float A0_1 c0_1 x0.Data, .sl (Kd.int .i64) A1_0 c1_0 x1.Shape, .sl Kd.float A1_1 c1_1 x1.Data] w302 := Mem.lit (kd := (Kd.int .i64)) (xs := ([(rd x0.Shape 0), (rd x1.Shape 1)] : List Int)) hm300 hbb301 hx305 hg306 (Els.append (Els.one (kd := (Kd.int .i64)) (us := [.int .i64 (rd x0.Shape 0)]) (x := (rd x0.Shape 0)) rfl) (Els.one (kd := (Kd.int .i64)) (us := [.int .i64 (rd x1.Shape 1)]) (x := (rd x1.Shape 1)) rfl))
                refine all1 9 (by kernel_rfl) ?_
                refine opOf hf304 rfl (by kernel_rfl) (aCall (fid := 42) (args := [.slice (some ⟨b301, 0, none⟩) 2 2, .float .f64 0]) (d := 56) hf304 (by kernel_rfl) (by kernel_rfl) callable42 (ref1_New.calls _ _ ([(rd x0.Shape 0), (rd x1.Shape 1)] : List Int) (some ⟨b301, 0, none⟩) 2 2 rfl 0 0 ((FR.lit (by kernel_rfl) (by kernel_rfl))) (hm307.give [0] [.sl (Kd.int .i64) (some ⟨b301, 0, none⟩) 2 ([(rd x0.Shape 0), (rd x1.Shape 1)] : List Int)] rfl rfl) r111 hr111) ?_)
                rintro _ w312 a313 ⟨A308, c309, A310, c311, rfl, hk315⟩ hf314
                refine ⟨.inr (Gr.still hk315.cum.none), ?_⟩
                have hm316 : Mem [] M w0 [.ow (Kd.int .i64) 3 A308 c309 r111.1.Shape, .ow Kd.float 47 A310 c311 r111.1.Data, .sl (Kd.int .i64) (some ⟨b301, 0, none⟩) 2 ([(rd x0.Shape 0), (rd x1.Shape 1)] : List Int), .bx b294 [.slice none 0 0, .slice none 0 0] 42, .bx b35 [.slice none 0 0, .slice none 0 0] 42, .bx b28 [.slice A1_0 x1.Shape.length c1_0, .slice A1_1 x1.Data.length c1_1] 42, .bx b21 [.slice A0_0 x0.Shape.length c0_0, .slice A0_1 x0.Data.length c0_1] 42, .sl (Kd.int .i64) A0_0 c0_0 x0.Shape, .sl Kd.float A0_1 c0_1 x0.Data, .sl (Kd.int .i64) A1_0 c1_0 x1.Shape, .sl Kd.float A1_1 c1_1 x1.Data] w312 := hm307.back hk315
                refine quiet0 [10, 11, 12] [] [2, 3, 4, 6, 57, 58] #[true, true, true, true, true, true, true, true, true, true, true, true, true, true, false, false] [(2, .pointer (some ⟨b21, 0, none⟩)), (3, .pointer (some ⟨b28, 0, none⟩)), (4, .pointer (some ⟨b35, 0, none⟩)), (6, .pointer (some ⟨b294, 0, none⟩)), (57, .agg #[.slice A308 r111.1.Shape.length c309, .slice A310 r111.1.Data.length c311]), (58, .int .i64 r111.2)] [] 2 rfl (by kernel_rfl) (fun _ _ _ _ _ h => nomatch h.1) hf314 (by kernel_rfl) trivial fun a317 hf318 => ?_
                refine all1 14 (by kernel_rfl) ?_
                refine opOf hf318 rfl (by kernel_rfl) (aStoreB (b := b294) (j := 0) (T := 42) (cs := [.slice none 0 0, .slice none 0 0]) (us := [.slice A308 r111.1.Shape.length c309, .slice A310 r111.1.Data.length c311]) (cs' := [.slice A308 r111.1.Shape.length c309, .slice A310 r111.1.Data.length c311]) hf318 (by kernel_rfl) (hm316.bxAt 3 rfl) (by kernel_rfl) (by kernel_rfl) (by kernel_rfl) ?_)
                intro w319 hx320 hg321
                refine ⟨.inl (by decide), ?_⟩
                have hm322 : Mem [] M w0 [.ow (Kd.int .i64) 3 A308 c309 r111.1.Shape, .ow Kd.float 47 A310 c311 r111.1.Data, .sl (Kd.int .i64) (some ⟨b301, 0, none⟩) 2 ([(rd x0.Shape 0), (rd x1.Shape 1)] : List Int), .bx b294 [.slice A308 r111.1.Shape.length c309, .slice A310 r111.1.Data.length c311] 42, .bx b35 [.slice none 0 0, .slice none 0 0] 42, .bx b28 [.slice A1_0 x1.Shape.length c1_0, .slice A1_1 x1.Data.length c1_1] 42, .bx b21 [.slice A0_0 x0.Shape.length c0_0, .slice A0_1 x0.Data.length c0_1] 42, .sl (Kd.int .i64) A0_0 c0_0 x0.Shape, .sl Kd.float A0_1 c0_1 x0.Data, .sl (Kd.int .i64) A1_0 c1_0 x1.Shape, .sl Kd.float A1_1 c1_1 x1.Data] w319 := hm316.setBox 3 _ rfl rfl hx320 hg321
                refine quiet0 [15] [] [2, 3, 4, 6, 7] #[true, true, true, true, true, true, true, true, true, true, true, true, true, true, true, true] [(2, .pointer (some ⟨b21, 0, none⟩)), (3, .pointer (some ⟨b28, 0, none⟩)), (4, .pointer (some ⟨b35, 0, none⟩)), (6, .pointer (some ⟨b294, 0, none⟩)), (7, .int .i64 r111.2)] [] 0 rfl (by kernel_rfl) (fun _ _ _ _ _ h => nomatch h.1) hf318 (by kernel_rfl) trivial fun a323 hf324 => ?_
                refine allDone (by kernel_rfl) ⟨rfl, b294, A308, c309, A310, c311, hf324.sel (l := [2, 3, 4, 6, 7]) (by kernel_rfl), hm322.sel [3, 0, 1, 4, 5, 6, 7, 8, 9, 10] _ rfl (by kernel_rfl)⟩
            rintro a325 w326 ⟨b130, A121, c122, A123, c124, hf327, hm328⟩
            refine thenN ?_
            refine wp_seq ?_
            refine wp_seq ?_
            rcases if_split H0 with ⟨c329, H0⟩ | ⟨c329, H0⟩
            · refine reg [.bool false] [2, 3, 4, 6, 7, 60] [(2, .pointer (some ⟨b21, 0, none⟩)), (3, .pointer (some ⟨b28, 0, none⟩)), (4, .pointer (some ⟨b35, 0, none⟩)), (6, .pointer (some ⟨b130, 0, none⟩)), (7, .int .i64 r111.2), (60, .bool false)] [.is (((r111.2 : Int) != 0) = false)] hf327 (by kernel_rfl) ⟨(neF c329), trivial⟩ fun a330 hf331 => ?_
              refine thenN ?_
              refine condF hf331 (by kernel_rfl) ?_
              refine wp_skip ?_
              refine thenN ?_
              refine wp_seq ?_
              have q332 := (hm328.slAt 6 rfl).int 1 g50.1 g50.2
              have q333 := (hm328.slAt 8 rfl).int 1 g110.1 g110.2
              refine regQ [.slice A0_0 x0.Shape.length c0_0, .int .i64 (rd x0.Shape 1), .slice A1_0 x1.Shape.length c1_0, .int .i64 (rd x1.Shape 1)] [2, 3, 4, 6, 8, 9] [(2, .pointer (some ⟨b21, 0, none⟩)), (3, .pointer (some ⟨b28, 0, none⟩)), (4, .pointer (some ⟨b35, 0, none⟩)), (6, .pointer (some ⟨b130, 0, none⟩)), (8, .int .i64 (rd x0.Shape 1)), (9, .int .i64 (rd x1.Shape 1))] [.cell ⟨b21, 0, none⟩ (.slice A0_0 x0.Shape.length c0_0), .is (Option.isSome A0_0 = true), .is ((0 : Int) ≤ 1 ∧ 1 < (x0.Shape.length : Int)), .cell ((ad A0_0).add ((1 : Int).toNat * 1)) (.int .i64 (rd x0.Shape 1)), .cell ⟨b28, 0, none⟩ (.slice A1_0 x1.Shape.length c1_0), .is (Option.isSome A1_0 = true), .is ((0 : Int) ≤ 1 ∧ 1 < (x1.Shape.length : Int)), .cell ((ad A1_0).add ((1 : Int).toNat * 1)) (.int .i64 (rd x1.Shape 1))] (by kernel_rfl) (by kernel_rfl) hf331 (by kernel_rfl) ⟨(hm328.cell 5 rfl rfl), q332.1, g50, q332.2, (hm328.cell 4 rfl rfl), q333.1, g110, q333.2, trivial⟩ fun a334 w336 hf335 hg337 => ?_
              have hm338 : Mem [] M w0 [.bx b130 [.slice A121 r111.1.Shape.length c122, .slice A123 r111.1.Data.length c124] 42, .ow (Kd.int .i64) 3 A121 c122 r111.1.Shape, .ow Kd.float 47 A123 c124 r111.1.Data, .bx b35 [.slice none 0 0, .slice none 0 0] 42, .bx b28 [.slice A1_0 x1.Shape.length c1_0, .slice A1_1 x1.Data.length c1_1] 42, .bx b21 [.slice A0_0 x0.Shape.length c0_0, .slice A0_1 x0.Data.length c0_1] 42, .sl (Kd.int .i64) A0_0 c0_0 x0.Shape, .sl Kd.float A0_1 c0_1 x0.Data, .sl (Kd.int .i64) A1_0 c1_0 x1.Shape, .sl Kd.float A1_1 c1_1 x1.Data] w336 := hm328.still hg337
              refine thenN ?_
              refine wp_seq ?_
              refine wp_seq ?_
              refine reg [] [2, 3, 4, 6, 8, 9, 10] [(2, .pointer (some ⟨b21, 0, none⟩)), (3, .pointer (some ⟨b28, 0, none⟩)), (4, .pointer (some ⟨b35, 0, none⟩)), (6, .pointer (some ⟨b130, 0, none⟩)), (8, .int .i64 (rd x0.Shape 1)), (9, .int .i64 (rd x1.Shape 1)), (10, .int .i64 0)] [] hf335 (by kernel_rfl) trivial fun a339 hf340 => ?_
              refine thenN ?_
              obtain ⟨r342, hr342, H0⟩ := ob_split H0
              refine wpBlock (Mid := fun (a : Act) (w : World) => Fr 124 a [(2, .pointer (some ⟨b21, 0, none⟩)), (3, .pointer (some ⟨b28, 0, none⟩)), (4, .pointer (some ⟨b35, 0, none⟩)), (6, .pointer (some ⟨b130, 0, none⟩)), (8, .int .i64 (rd x0.Shape 1)), (9, .int .i64 (rd x1.Shape 1)), (10, .int .i64 r342.1)] ∧ Mem [] M w0 [.bx b130 [.slice A121 r111.1.Shape.length c122, .slice A123 r342.2.length c124] 42, .ow (Kd.int .i64) 3 A121 c122 r111.1.Shape, .ow Kd.float 47 A123 c124 r342.2, .bx b35 [.slice none 0 0, .slice none 0 0] 42, .bx b28 [.slice A1_0 x1.Shape.length c1_0, .slice A1_1 x1.Data.length c1_1] 42, .bx b21 [.slice A0_0 x0.Shape.length c0_0, .slice A0_1 x0.Data.length c0_1] 42, .sl (Kd.int .i64) A0_0 c0_0 x0.Shape, .sl Kd.float A0_1 c0_1 x0.Data, .sl (Kd.int .i64) A1_0 c1_0 x1.Shape, .sl Kd.float A1_1 c1_1 x1.Data] w) ?_ ?_
              · refine wpLoop (ref1_Matmul.l0 x0 x1) r342 (fun (s341 : (Int × (List Nat))) (a : Act) (w : World) => Fr 124 a [(2, .pointer (some ⟨b21, 0, none⟩)), (3, .pointer (some ⟨b28, 0, none⟩)), (4, .pointer (some ⟨b35, 0, none⟩)), (6, .pointer (some ⟨b130, 0, none⟩)), (8, .int .i64 (rd x0.Shape 1)), (9, .int .i64 (rd x1.Shape 1)), (10, .int .i64 s341.1)] ∧ Mem [] M w0 [.bx b130 [.slice A121 r111.1.Shape.length c122, .slice A123 s341.2.length c124] 42, .ow (Kd.int .i64) 3 A121 c122 r111.1.Shape, .ow Kd.float 47 A123 c124 s341.2, .bx b35 [.slice none 0 0, .slice none 0 0] 42, .bx b28 [.slice A1_0 x1.Shape.length c1_0, .slice A1_1 x1.Data.length c1_1] 42, .bx b21 [.slice A0_0 x0.Shape.length c0_0, .slice A0_1 x0.Data.length c0_1] 42, .sl (Kd.int .i64) A0_0 c0_0 x0.Shape, .sl Kd.float A0_1 c0_1 x0.Data, .sl (Kd.int .i64) A1_0 c1_0 x1.Shape, .sl Kd.float A1_1 c1_1 x1.Data] w) (0, r111.1.Data) hr342 ⟨hf340.sel (l := [2, 3, 4, 6, 8, 9, 10]) (by kernel_rfl), hm338.sel [0, 1, 2, 3, 4, 5, 6, 7, 8, 9] _ rfl (by kernel_rfl)⟩ ?_
                rintro g343 s341 a344 w345 H1 ⟨hf346, hm347⟩
                unfold ref1_Matmul.l0 at H1
                refine wp_seq ?_
                refine wp_seq ?_
                rcases ifS_split H1 with ⟨c348, H1⟩ | ⟨c348, H1⟩
                · have q349 := (hm347.slAt 6 rfl).int 0 g109.1 g109.2
                  refine reg [.slice A0_0 x0.Shape.length c0_0, .int .i64 (rd x0.Shape 0), .bool true] [2, 3, 4, 6, 8, 9, 10, 76] [(2, .pointer (some ⟨b21, 0, none⟩)), (3, .pointer (some ⟨b28, 0, none⟩)), (4, .pointer (some ⟨b35, 0, none⟩)), (6, .pointer (some ⟨b130, 0, none⟩)), (8, .int .i64 (rd x0.Shape 1)), (9, .int .i64 (rd x1.Shape 1)), (10, .int .i64 s341.1), (76, .bool true)] [.cell ⟨b21, 0, none⟩ (.slice A0_0 x0.Shape.length c0_0), .is (Option.isSome A0_0 = true), .is ((0 : Int) ≤ 0 ∧ 0 < (x0.Shape.length : Int)), .cell ((ad A0_0).add ((0 : Int).toNat * 1)) (.int .i64 (rd x0.Shape 0)), .is (decide (s341.1 < (rd x0.Shape 0)) = true)] hf346 (by kernel_rfl) ⟨(hm347.cell 5 rfl rfl), q349.1, g109, q349.2, (decide_eq_true c348), trivial⟩ fun a350 hf351 => ?_
                  refine thenN ?_
                  refine condT hf351 (by kernel_rfl) ?_
                  refine wp_skip ?_
                  refine thenN ?_
                  refine wp_seq ?_
                  refine wp_block ?_
                  refine wp_seq ?_
                  refine reg [] [2, 3, 4, 6, 8, 9, 10, 11] [(2, .pointer (some ⟨b21, 0, none⟩)), (3, .pointer (some ⟨b28, 0, none⟩)), (4, .pointer (some ⟨b35, 0, none⟩)), (6, .pointer (some ⟨b130, 0, none⟩)), (8, .int .i64 (rd x0.Shape 1)), (9, .int .i64 (rd x1.Shape 1)), (10, .int .i64 s341.1), (11, .int .i64 0)] [] hf351 (by kernel_rfl) trivial fun a352 hf353 => ?_
                  refine thenN ?_
                  obtain ⟨r355, hr355, H1⟩ := obS_split H1
                  refine wpBlock (Mid := fun (a : Act) (w : World) => Fr 124 a [(2, .pointer (some ⟨b21, 0, none⟩)), (3, .pointer (some ⟨b28, 0, none⟩)), (4, .pointer (some ⟨b35, 0, none⟩)), (6, .pointer (some ⟨b130, 0, none⟩)), (8, .int .i64 (rd x0.Shape 1)), (9, .int .i64 (rd x1.Shape 1)), (10, .int .i64 s341.1), (11, .int .i64 r355.1)] ∧ Mem [] M w0 [.bx b130 [.slice A121 r111.1.Shape.length c122, .slice A123 r355.2.length c124] 42, .ow (Kd.int .i64) 3 A121 c122 r111.1.Shape, .ow Kd.float 47 A123 c124 r355.2, .bx b35 [.slice none 0 0, .slice none 0 0] 42, .bx b28 [.slice A1_0 x1.Shape.length c1_0, .slice A1_1 x1.Data.length c1_1] 42, .bx b21 [.slice A0_0 x0.Shape.length c0_0, .slice A0_1 x0.Data.length c0_1] 42, .sl (Kd.int .i64) A0_0 c0_0 x0.Shape, .sl Kd.float A0_1 c0_1 x0.Data, .sl (Kd.int .i64) A1_0 c1_0 x1.Shape, .sl Kd.float A1_1 c1_1 x1.Data] w) ?_ ?_
                  · refine wpLoop (ref1_Matmul.l1 x1 x0 s341) r355 (fun (s354 : (Int × (List Nat))) (a : Act) (w : World) => Fr 124 a [(2, .pointer (some ⟨b21, 0, none⟩)), (3, .pointer (some ⟨b28, 0, none⟩)), (4, .pointer (some ⟨b35, 0, none⟩)), (6, .pointer (some ⟨b130, 0, none⟩)), (8, .int .i64 (rd x0.Shape 1)), (9, .int .i64 (rd x1.Shape 1)), (10, .int .i64 s341.1), (11, .int .i64 s354.1)] ∧ Mem [] M w0 [.bx b130 [.slice A121 r111.1.Shape.length c122, .slice A123 s354.2.length c124] 42, .ow (Kd.int .i64) 3 A121 c122 r111.1.Shape, .ow Kd.float 47 A123 c124 s354.2, .bx b35 [.slice none 0 0, .slice none 0 0] 42, .bx b28 [.slice A1_0 x1.Shape.length c1_0, .slice A1_1 x1.Data.length c1_1] 42, .bx b21 [.slice A0_0 x0.Shape.length c0_0, .slice A0_1 x0.Data.length c0_1] 42, .sl (Kd.int .i64) A0_0 c0_0 x0.Shape, .sl Kd.float A0_1 c0_1 x0.Data, .sl (Kd.int .i64) A1_0 c1_0 x1.Shape, .sl Kd.float A1_1 c1_1 x1.Data] w) (0, s341.2) hr355 ⟨hf353.sel (l := [2, 3, 4, 6, 8, 9, 10, 11]) (by kernel_rfl), hm347.sel [0, 1, 2, 3, 4, 5, 6, 7, 8, 9] _ rfl (by kernel_rfl)⟩ ?_
                    rintro g356 s354 a357 w358 H2 ⟨hf359, hm360⟩
                    unfold ref1_Matmul.l1 at H2
                    refine wp_seq ?_
                    refine wp_seq ?_
                    rcases ifS_split H2 with ⟨c361, H2⟩ | ⟨c361, H2⟩
                    · refine reg [.bool true] [2, 3, 4, 6, 8, 9, 10, 11, 81] [(2, .pointer (some ⟨b21, 0, none⟩)), (3, .pointer (some ⟨b28, 0, none⟩)), (4, .pointer (some ⟨b35, 0, none⟩)), (6, .pointer (some ⟨b130, 0, none⟩)), (8, .int .i64 (rd x0.Shape 1)), (9, .int .i64 (rd x1.Shape 1)), (10, .int .i64 s341.1), (11, .int .i64 s354.1), (81, .bool true)] [.is (decide (s354.1 < (rd x1.Shape 1)) = true)] hf359 (by kernel_rfl) ⟨(decide_eq_true c361), trivial⟩ fun a362 hf363 => ?_
                      refine thenN ?_
                      refine condT hf363 (by kernel_rfl) ?_
                      refine wp_skip ?_
                      refine thenN ?_
                      refine wp_seq ?_
                      refine wp_block ?_
                      refine wp_seq ?_
                      obtain ⟨g364, H2⟩ := ifS_guard H2
                      refine inReg ?_
                      refine go 1 [] [2, 3, 4, 6, 8, 9, 10, 11, 84] [(2, .pointer (some ⟨b21, 0, none⟩)), (3, .pointer (some ⟨b28, 0, none⟩)), (4, .pointer (some ⟨b35, 0, none⟩)), (6, .pointer (some ⟨b130, 0, none⟩)), (8, .int .i64 (rd x0.Shape 1)), (9, .int .i64 (rd x1.Shape 1)), (10, .int .i64 s341.1), (11, .int .i64 s354.1), (84, .int .i64 (rd x0.Shape 1))] [] hf363 (by kernel_rfl) trivial fun a365 hf366 => ?_
                      refine listOf hf366 rfl (by kernel_rfl) (aMake (kd := Kd.float) (x := 0) (E := 47) (L := (rd x0.Shape 1)) (z := [.float .f64 0]) (sz := 1) (d := 85) hf366 (by kernel_rfl) (by kernel_rfl) rfl (fun _ _ => ⟨0, rfl, FR.lit (by kernel_rfl) (by kernel_rfl)⟩) g364.1 g364.2 ?_)
                      intro A367 c368 w369 a370 ho372 hb374 hg373 hf371
                      have hm375 : Mem [] M w0 [.ow Kd.float 47 A367 c368 (List.replicate ((rd x0.Shape 1)).toNat (0 : Nat)), .bx b130 [.slice A121 r111.1.Shape.length c122, .slice A123 s354.2.length c124] 42, .ow (Kd.int .i64) 3 A121 c122 r111.1.Shape, .ow Kd.float 47 A123 c124 s354.2, .bx b35 [.slice none 0 0, .slice none 0 0] 42, .bx b28 [.slice A1_0 x1.Shape.length c1_0, .slice A1_1 x1.Data.length c1_1] 42, .bx b21 [.slice A0_0 x0.Shape.length c0_0, .slice A0_1 x0.Data.length c0_1] 42, .sl (Kd.int .i64) A0_0 c0_0 x0.Shape, .sl Kd.float A0_1 c0_1 x0.Data, .sl (Kd.int .i64) A1_0 c1_0 x1.Shape, .sl Kd.float A1_1 c1_1 x1.Data] w369 := hm360.own (ho372 _) hg373
                      refine go 1 [] [2, 3, 4, 6, 8, 9, 10, 11, 12] [(2, .pointer (some ⟨b21, 0, none⟩)), (3, .pointer (some ⟨b28, 0, none⟩)), (4, .pointer (some ⟨b35, 0, none⟩)), (6, .pointer (some ⟨b130, 0, none⟩)), (8, .int .i64 (rd x0.Shape 1)), (9, .int .i64 (rd x1.Shape 1)), (10, .int .i64 s341.1), (11, .int .i64 s354.1), (12, .slice A367 ((List.replicate ((rd x0.Shape 1)).toNat (0 : Nat)).length) c368)] [] hf371 (by kernel_rfl) trivial fun a376 hf377 => ?_
                      refine endL rfl ?_
                      refine thenN ?_
                      refine wp_seq ?_
                      refine wp_seq ?_
                      refine reg [] [2, 3, 4, 6, 8, 9, 10, 11, 12, 13] [(2, .pointer (some ⟨b21, 0, none⟩)), (3, .pointer (some ⟨b28, 0, none⟩)), (4, .pointer (some ⟨b35, 0, none⟩)), (6, .pointer (some ⟨b130, 0, none⟩)), (8, .int .i64 (rd x0.Shape 1)), (9, .int .i64 (rd x1.Shape 1)), (10, .int .i64 s341.1), (11, .int .i64 s354.1), (12, .slice A367 ((List.replicate ((rd x0.Shape 1)).toNat (0 : Nat)).length) c368), (13, .int .i64 0)] [] hf377 (by kernel_rfl) trivial fun a378 hf379 => ?_
                      refine thenN ?_
                      obtain ⟨r381, hr381, H2⟩ := obS_split H2
                      refine wpBlock (Mid := fun (a : Act) (w : World) => Fr 124 a [(2, .pointer (some ⟨b21, 0, none⟩)), (3, .pointer (some ⟨b28, 0, none⟩)), (4, .pointer (some ⟨b35, 0, none⟩)), (6, .pointer (some ⟨b130, 0, none⟩)), (8, .int .i64 (rd x0.Shape 1)), (9, .int .i64 (rd x1.Shape 1)), (10, .int .i64 s341.1), (11, .int .i64 s354.1), (12, .slice A367 r381.2.length c368), (13, .int .i64 r381.1)] ∧ Mem [] M w0 [.ow Kd.float 47 A367 c368 r381.2, .bx b130 [.slice A121 r111.1.Shape.length c122, .slice A123 s354.2.length c124] 42, .ow (Kd.int .i64) 3 A121 c122 r111.1.Shape, .ow Kd.float 47 A123 c124 s354.2, .bx b35 [.slice none 0 0, .slice none 0 0] 42, .bx b28 [.slice A1_0 x1.Shape.length c1_0, .slice A1_1 x1.Data.length c1_1] 42, .bx b21 [.slice A0_0 x0.Shape.length c0_0, .slice A0_1 x0.Data.length c0_1] 42, .sl (Kd.int .i64) A0_0 c0_0 x0.Shape, .sl Kd.float A0_1 c0_1 x0.Data, .sl (Kd.int .i64) A1_0 c1_0 x1.Shape, .sl Kd.float A1_1 c1_1 x1.Data] w) ?_ ?_
                      · refine wpLoop (ref1_Matmul.l2 x0 s341 x1 s354) r381 (fun (s380 : (Int × (List Nat))) (a : Act) (w : World) => Fr 124 a [(2, .pointer (some ⟨b21, 0, none⟩)), (3, .pointer (some ⟨b28, 0, none⟩)), (4, .pointer (some ⟨b35, 0, none⟩)), (6, .pointer (some ⟨b130, 0, none⟩)), (8, .int .i64 (rd x0.Shape 1)), (9, .int .i64 (rd x1.Shape 1)), (10, .int .i64 s341.1), (11, .int .i64 s354.1), (12, .slice A367 s380.2.length c368), (13, .int .i64 s380.1)] ∧ Mem [] M w0 [.ow Kd.float 47 A367 c368 s380.2, .bx b130 [.slice A121 r111.1.Shape.length c122, .slice A123 s354.2.length c124] 42, .ow (Kd.int .i64) 3 A121 c122 r111.1.Shape, .ow Kd.float 47 A123 c124 s354.2, .bx b35 [.slice none 0 0, .slice none 0 0] 42, .bx b28 [.slice A1_0 x1.Shape.length c1_0, .slice A1_1 x1.Data.length c1_1] 42, .bx b21 [.slice A0_0 x0.Shape.length c0_0, .slice A0_1 x0.Data.length c0_1] 42, .sl (Kd.int .i64) A0_0 c0_0 x0.Shape, .sl Kd.float A0_1 c0_1 x0.Data, .sl (Kd.int .i64) A1_0 c1_0 x1.Shape, .sl Kd.float A1_1 c1_1 x1.Data] w) (0, (List.replicate ((rd x0.Shape 1)).toNat (0 : Nat))) hr381 ⟨hf379.sel (l := [2, 3, 4, 6, 8, 9, 10, 11, 12, 13]) (by kernel_rfl), hm375.sel [0, 1, 2, 3, 4, 5, 6, 7, 8, 9, 10] _ rfl (by kernel_rfl)⟩ ?_
                        rintro g382 s380 a383 w384 H3 ⟨hf385, hm386⟩
                        unfold ref1_Matmul.l2 at H3
                        refine wp_seq ?_
                        refine wp_seq ?_
                        rcases ifS_split H3 with ⟨c387, H3⟩ | ⟨c387, H3⟩
                        · refine reg [.bool true] [2, 3, 4, 6, 8, 9, 10, 11, 12, 13, 88] [(2, .pointer (some ⟨b21, 0, none⟩)), (3, .pointer (some ⟨b28, 0, none⟩)), (4, .pointer (some ⟨b35, 0, none⟩)), (6, .pointer (some ⟨b130, 0, none⟩)), (8, .int .i64 (rd x0.Shape 1)), (9, .int .i64 (rd x1.Shape 1)), (10, .int .i64 s341.1), (11, .int .i64 s354.1), (12, .slice A367 s380.2.length c368), (13, .int .i64 s380.1), (88, .bool true)] [.is (decide (s380.1 < (rd x0.Shape 1)) = true)] hf385 (by kernel_rfl) ⟨(decide_eq_true c387), trivial⟩ fun a388 hf389 => ?_
                          refine thenN ?_
                          refine condT hf389 (by kernel_rfl) ?_
                          refine wp_skip ?_
                          refine thenN ?_
                          refine wp_seq ?_
                          refine wp_block ?_
                          obtain ⟨g390, H3⟩ := ifS_guard H3
                          obtain ⟨g391, H3⟩ := ifS_guard H3
                          obtain ⟨g392, H3⟩ := ifS_guard H3
                          refine midReg (fun (a : Act) (w : World) => Fr 124 a [(2, .pointer (some ⟨b21, 0, none⟩)), (3, .pointer (some ⟨b28, 0, none⟩)), (4, .pointer (some ⟨b35, 0, none⟩)), (6, .pointer (some ⟨b130, 0, none⟩)), (8, .int .i64 (rd x0.Shape 1)), (9, .int .i64 (rd x1.Shape 1)), (10, .int .i64 s341.1), (11, .int .i64 s354.1), (12, .slice A367 s380.2.length c368), (13, .int .i64 s380.1)] ∧ Mem [] M w0 [.ow Kd.float 47 A367 c368 (put s380.2 s380.1 (fmul (rd x0.Data (w64 ((w64 (s341.1 * (rd x0.Shape 1))) + s380.1))) (rd x1.Data (w64 ((w64 (s380.1 * (rd x1.Shape 1))) + s354.1))))), .bx b130 [.slice A121 r111.1.Shape.length c122, .slice A123 s354.2.length c124] 42, .ow (Kd.int .i64) 3 A121 c122 r111.1.Shape, .ow Kd.float 47 A123 c124 s354.2, .bx b35 [.slice none 0 0, .slice none 0 0] 42, .bx b28 [.slice A1_0 x1.Shape.length c1_0, .slice A1_1 x1.Data.length c1_1] 42, .bx b21 [.slice A0_0 x0.Shape.length c0_0, .slice A0_1 x0.Data.length c0_1] 42, .sl (Kd.int .i64) A0_0 c0_0 x0.Shape, .sl Kd.float A0_1 c0_1 x0.Data, .sl (Kd.int .i64) A1_0 c1_0 x1.Shape, .sl Kd.float A1_1 c1_1 x1.Data] w) ?_ ?_
                          · refine anyG [22] (by kernel_rfl) fun w409 hg410 => ?_
                            have hm411 : Mem [] M w0 [.ow Kd.float 47 A367 c368 s380.2, .bx b130 [.slice A121 r111.1.Shape.length c122, .slice A123 s354.2.length c124] 42, .ow (Kd.int .i64) 3 A121 c122 r111.1.Shape, .ow Kd.float 47 A123 c124 s354.2, .bx b35 [.slice none 0 0, .slice none 0 0] 42, .bx b28 [.slice A1_0 x1.Shape.length c1_0, .slice A1_1 x1.Data.length c1_1] 42, .bx b21 [.slice A0_0 x0.Shape.length c0_0, .slice A0_1 x0.Data.length c0_1] 42, .sl (Kd.int .i64) A0_0 c0_0 x0.Shape, .sl Kd.float A0_1 c0_1 x0.Data, .sl (Kd.int .i64) A1_0 c1_0 x1.Shape, .sl Kd.float A1_1 c1_1 x1.Data] w409 := hm386.still hg410
                            have q432 := (hm411.slAt 8 rfl).float (w64 ((w64 (s341.1 * (rd x0.Shape 1))) + s380.1)) g390.1 g390.2
                            obtain ⟨b433, hb433, kb433⟩ := q432.2
                            have q434 := (hm411.slAt 10 rfl).float (w64 ((w64 (s380.1 * (rd x1.Shape 1))) + s354.1)) g391.1 g391.2
                            obtain ⟨b435, hb435, kb435⟩ := q434.2
                            refine quiet0 [0, 1, 2, 3, 4, 5, 6, 7, 8, 9, 10, 11, 12, 13, 14, 15, 16, 17, 18, 19] [.slice A0_1 x0.Data.length c0_1, .float .f64 b433, .slice A1_1 x1.Data.length c1_1, .float .f64 b435] [2, 3, 4, 6, 8, 9, 10, 11, 12, 13, 91, 92, 101, 110] #[true, true, true, true, true, true, true, true, true, true, true, true, true, true, true, true, true, true, true, true, false, false, false] [(2, .pointer (some ⟨b21, 0, none⟩)), (3, .pointer (some ⟨b28, 0, none⟩)), (4, .pointer (some ⟨b35, 0, none⟩)), (6, .pointer (some ⟨b130, 0, none⟩)), (8, .int .i64 (rd x0.Shape 1)), (9, .int .i64 (rd x1.Shape 1)), (10, .int .i64 s341.1), (11, .int .i64 s354.1), (12, .slice A367 s380.2.length c368), (13, .int .i64 s380.1), (91, .slice A367 s380.2.length c368), (92, .int .i64 s380.1), (101, .float .f64 b433), (110, .float .f64 b435)] [.cell ⟨b21, 1, none⟩ (.slice A0_1 x0.Data.length c0_1), .is (Option.isSome A0_1 = true), .is (0 ≤ (w64 ((w64 (s341.1 * (rd x0.Shape 1))) + s380.1)) ∧ (w64 ((w64 (s341.1 * (rd x0.Shape 1))) + s380.1)) < (x0.Data.length : Int)), .cell ((ad A0_1).add (((w64 ((w64 (s341.1 * (rd x0.Shape 1))) + s380.1))).toNat * 1)) (.float .f64 b433), .cell ⟨b28, 1, none⟩ (.slice A1_1 x1.Data.length c1_1), .is (Option.isSome A1_1 = true), .is (0 ≤ (w64 ((w64 (s380.1 * (rd x1.Shape 1))) + s354.1)) ∧ (w64 ((w64 (s380.1 * (rd x1.Shape 1))) + s354.1)) < (x1.Data.length : Int)), .cell ((ad A1_1).add (((w64 ((w64 (s380.1 * (rd x1.Shape 1))) + s354.1))).toNat * 1)) (.float .f64 b435)] 3 rfl (by kernel_rfl) (fun _ _ _ _ _ h => nomatch h.1) hf389 (by kernel_rfl) ⟨(hm411.cell 6 rfl rfl), q432.1, g390, kb433, (hm411.cell 5 rfl rfl), q434.1, g391, kb435, trivial⟩ fun a436 hf437 => ?_
                            refine all1 20 (by kernel_rfl) ?_
                            refine opOf hf437 rfl (by kernel_rfl) (aArith (k := 2) (b := b433) (c := b435) (x := (rd x0.Data (w64 ((w64 (s341.1 * (rd x0.Shape 1))) + s380.1)))) (y := (rd x1.Data (w64 ((w64 (s380.1 * (rd x1.Shape 1))) + s354.1)))) (d := 111) hf437 (by kernel_rfl) (by kernel_rfl) hb433 hb435 ?_)
                            intro b438 w439 a440 hb438 hg442 hf441
                            refine ⟨.inr (Gr.still hg442), ?_⟩
                            replace hb438 : FR b438 (fmul (rd x0.Data (w64 ((w64 (s341.1 * (rd x0.Shape 1))) + s380.1))) (rd x1.Data (w64 ((w64 (s380.1 * (rd x1.Shape 1))) + s354.1)))) := hb438
                            have hm443 : Mem [] M w0 [.ow Kd.float 47 A367 c368 s380.2, .bx b130 [.slice A121 r111.1.Shape.length c122, .slice A123 s354.2.length c124] 42, .ow (Kd.int .i64) 3 A121 c122 r111.1.Shape, .ow Kd.float 47 A123 c124 s354.2, .bx b35 [.slice none 0 0, .slice none 0 0] 42, .bx b28 [.slice A1_0 x1.Shape.length c1_0, .slice A1_1 x1.Data.length c1_1] 42, .bx b21 [.slice A0_0 x0.Shape.length c0_0, .slice A0_1 x0.Data.length c0_1] 42, .sl (Kd.int .i64) A0_0 c0_0 x0.Shape, .sl Kd.float A0_1 c0_1 x0.Data, .sl (Kd.int .i64) A1_0 c1_0 x1.Shape, .sl Kd.float A1_1 c1_1 x1.Data] w439 := hm411.still hg442
                            have q444 := (hm443.owAt 0 rfl).float s380.1 g392.1 g392.2
                            obtain ⟨b445, hb445, kb445⟩ := q444.2
                            refine quiet0 [21] [] [2, 3, 4, 6, 8, 9, 10, 11, 12, 13, 111, 112] #[true, true, true, true, true, true, true, true, true, true, true, true, true, true, true, true, true, true, true, true, true, true, false] [(2, .pointer (some ⟨b21, 0, none⟩)), (3, .pointer (some ⟨b28, 0, none⟩)), (4, .pointer (some ⟨b35, 0, none⟩)), (6, .pointer (some ⟨b130, 0, none⟩)), (8, .int .i64 (rd x0.Shape 1)), (9, .int .i64 (rd x1.Shape 1)), (10, .int .i64 s341.1), (11, .int .i64 s354.1), (12, .slice A367 s380.2.length c368), (13, .int .i64 s380.1), (111, .float .f64 b438), (112, .pointer (some ((ad A367).add ((s380.1).toNat * 1))))] [.is (Option.isSome A367 = true), .is (0 ≤ s380.1 ∧ s380.1 < (s380.2.length : Int))] 1 rfl (by kernel_rfl) (fun _ _ _ _ _ h => nomatch h.1) hf441 (by kernel_rfl) ⟨q444.1, g392, trivial⟩ fun a446 hf447 => ?_
                            refine all1 22 (by kernel_rfl) ?_
                            refine opOf hf447 rfl (by kernel_rfl) (aStoreO (kd := Kd.float) (base := 0) (E := 47) (A := A367) (c := c368) (xs := s380.2) (i := s380.1) (x := (fmul (rd x0.Data (w64 ((w64 (s341.1 * (rd x0.Shape 1))) + s380.1))) (rd x1.Data (w64 ((w64 (s380.1 * (rd x1.Shape 1))) + s354.1))))) (us := [.float .f64 b438]) (sz := 1) hf447 (by kernel_rfl) rfl (by kernel_rfl) (hm443.at 0 rfl) ⟨_, rfl, hb438⟩ g392.1 g392.2 ?_)
                            intro w448 hx449 hg450
                            refine ⟨.inl (by decide), ?_⟩
                            have hm451 : Mem [] M w0 [.ow Kd.float 47 A367 c368 (put s380.2 s380.1 (fmul (rd x0.Data (w64 ((w64 (s341.1 * (rd x0.Shape 1))) + s380.1))) (rd x1.Data (w64 ((w64 (s380.1 * (rd x1.Shape 1))) + s354.1))))), .bx b130 [.slice A121 r111.1.Shape.length c122, .slice A123 s354.2.length c124] 42, .ow (Kd.int .i64) 3 A121 c122 r111.1.Shape, .ow Kd.float 47 A123 c124 s354.2, .bx b35 [.slice none 0 0, .slice none 0 0] 42, .bx b28 [.slice A1_0 x1.Shape.length c1_0, .slice A1_1 x1.Data.length c1_1] 42, .bx b21 [.slice A0_0 x0.Shape.length c0_0, .slice A0_1 x0.Data.length c0_1] 42, .sl (Kd.int .i64) A0_0 c0_0 x0.Shape, .sl Kd.float A0_1 c0_1 x0.Data, .sl (Kd.int .i64) A1_0 c1_0 x1.Shape, .sl Kd.float A1_1 c1_1 x1.Data] w448 := hm443.setOwn 0 _ rfl rfl hx449 hg450 (.inl rfl)
                            refine allDone (by kernel_rfl) ⟨rfl, hf447.sel (l := [2, 3, 4, 6, 8, 9, 10, 11, 12, 13]) (by kernel_rfl), hm451.sel [0, 1, 2, 3, 4, 5, 6, 7, 8, 9, 10] _ rfl (by kernel_rfl)⟩
                          rintro a452 w453 ⟨hf454, hm455⟩
                          refine blkN ?_
                          refine thenN ?_
                          refine reg [] [2, 3, 4, 6, 8, 9, 10, 11, 12, 13] [(2, .pointer (some ⟨b21, 0, none⟩)), (3, .pointer (some ⟨b28, 0, none⟩)), (4, .pointer (some ⟨b35, 0, none⟩)), (6, .pointer (some ⟨b130, 0, none⟩)), (8, .int .i64 (rd x0.Shape 1)), (9, .int .i64 (rd x1.Shape 1)), (10, .int .i64 s341.1), (11, .int .i64 s354.1), (12, .slice A367 s380.2.length c368), (13, .int .i64 (w64 (s380.1 + 1)))] [] hf454 (by kernel_rfl) trivial fun a456 hf457 => ?_
                          have hf458 : Fr 124 a456 [(2, .pointer (some ⟨b21, 0, none⟩)), (3, .pointer (some ⟨b28, 0, none⟩)), (4, .pointer (some ⟨b35, 0, none⟩)), (6, .pointer (some ⟨b130, 0, none⟩)), (8, .int .i64 (rd x0.Shape 1)), (9, .int .i64 (rd x1.Shape 1)), (10, .int .i64 s341.1), (11, .int .i64 s354.1), (12, .slice A367 s380.2.length c368), (13, .int .i64 (w64 (s380.1 + 1)))] := hf457.sel (l := [2, 3, 4, 6, 8, 9, 10, 11, 12, 13]) (by kernel_rfl)
                          have hm459 : Mem [] M w0 [.ow Kd.float 47 A367 c368 (put s380.2 s380.1 (fmul (rd x0.Data (w64 ((w64 (s341.1 * (rd x0.Shape 1))) + s380.1))) (rd x1.Data (w64 ((w64 (s380.1 * (rd x1.Shape 1))) + s354.1))))), .bx b130 [.slice A121 r111.1.Shape.length c122, .slice A123 s354.2.length c124] 42, .ow (Kd.int .i64) 3 A121 c122 r111.1.Shape, .ow Kd.float 47 A123 c124 s354.2, .bx b35 [.slice none 0 0, .slice none 0 0] 42, .bx b28 [.slice A1_0 x1.Shape.length c1_0, .slice A1_1 x1.Data.length c1_1] 42, .bx b21 [.slice A0_0 x0.Shape.length c0_0, .slice A0_1 x0.Data.length c0_1] 42, .sl (Kd.int .i64) A0_0 c0_0 x0.Shape, .sl Kd.float A0_1 c0_1 x0.Data, .sl (Kd.int .i64) A1_0 c1_0 x1.Shape, .sl Kd.float A1_1 c1_1 x1.Data] w453 := hm455.sel [0, 1, 2, 3, 4, 5, 6, 7, 8, 9, 10] _ rfl (by kernel_rfl)
                          exact ⟨((w64 (s380.1 + 1)), (put s380.2 s380.1 (fmul (rd x0.Data (w64 ((w64 (s341.1 * (rd x0.Shape 1))) + s380.1))) (rd x1.Data (w64 ((w64 (s380.1 * (rd x1.Shape 1))) + s354.1)))))), H3, (by simpa only [put_length, List.length_nil] using hf458), (by simpa only [put_length, List.length_nil] using hm459)⟩
                        · refine reg [.bool false] [2, 3, 4, 6, 8, 9, 10, 11, 12, 13, 88] [(2, .pointer (some ⟨b21, 0, none⟩)), (3, .pointer (some ⟨b28, 0, none⟩)), (4, .pointer (some ⟨b35, 0, none⟩)), (6, .pointer (some ⟨b130, 0, none⟩)), (8, .int .i64 (rd x0.Shape 1)), (9, .int .i64 (rd x1.Shape 1)), (10, .int .i64 s341.1), (11, .int .i64 s354.1), (12, .slice A367 s380.2.length c368), (13, .int .i64 s380.1), (88, .bool false)] [.is (decide (s380.1 < (rd x0.Shape 1)) = false)] hf385 (by kernel_rfl) ⟨(decide_eq_false c387), trivial⟩ fun a460 hf461 => ?_
                          refine thenN ?_
                          refine condF hf461 (by kernel_rfl) ?_
                          refine wp_exit ?_
                          refine thenE ?_
                          refine thenE ?_
                          obtain rfl := Option.some.inj H3
                          exact .inl ⟨rfl, hf461.sel (l := [2, 3, 4, 6, 8, 9, 10, 11, 12, 13]) (by kernel_rfl), hm386.sel [0, 1, 2, 3, 4, 5, 6, 7, 8, 9, 10] _ rfl (by kernel_rfl)⟩
                      rintro a462 w463 ⟨hf464, hm465⟩
                      refine thenN ?_
                      obtain ⟨r466, hr466, H2⟩ := obS_split H2
                      obtain ⟨g467, H2⟩ := ifS_guard H2
                      refine midReg (fun (a : Act) (w : World) => Fr 124 a [(2, .pointer (some ⟨b21, 0, none⟩)), (3, .pointer (some ⟨b28, 0, none⟩)), (4, .pointer (some ⟨b35, 0, none⟩)), (6, .pointer (some ⟨b130, 0, none⟩)), (8, .int .i64 (rd x0.Shape 1)), (9, .int .i64 (rd x1.Shape 1)), (10, .int .i64 s341.1), (11, .int .i64 s354.1)] ∧ Mem [] M w0 [.bx b130 [.slice A121 r111.1.Shape.length c122, .slice A123 s354.2.length c124] 42, .ow (Kd.int .i64) 3 A121 c122 r111.1.Shape, .ow Kd.float 47 A123 c124 (put s354.2 (w64 ((w64 (s341.1 * (rd x1.Shape 1))) + s354.1)) r466), .bx b35 [.slice none 0 0, .slice none 0 0] 42, .bx b28 [.slice A1_0 x1.Shape.length c1_0, .slice A1_1 x1.Data.length c1_1] 42, .bx b21 [.slice A0_0 x0.Shape.length c0_0, .slice A0_1 x0.Data.length c0_1] 42, .sl (Kd.int .i64) A0_0 c0_0 x0.Shape, .sl Kd.float A0_1 c0_1 x0.Data, .sl (Kd.int .i64) A1_0 c1_0 x1.Shape, .sl Kd.float A1_1 c1_1 x1.Data] w) ?_ ?_
                      · refine anyG [10] (by kernel_rfl) fun w481 hg482 => ?_
                        have hm483 : Mem [] M w0 [.ow Kd.float 47 A367 c368 r381.2, .bx b130 [.slice A121 r111.1.Shape.length c122, .slice A123 s354.2.length c124] 42, .ow (Kd.int .i64) 3 A121 c122 r111.1.Shape, .ow Kd.float 47 A123 c124 s354.2, .bx b35 [.slice none 0 0, .slice none 0 0] 42, .bx b28 [.slice A1_0 x1.Shape.length c1_0, .slice A1_1 x1.Data.length c1_1] 42, .bx b21 [.slice A0_0 x0.Shape.length c0_0, .slice A0_1 x0.Data.length c0_1] 42, .sl (Kd.int .i64) A0_0 c0_0 x0.Shape, .sl Kd.float A0_1 c0_1 x0.Data, .sl (Kd.int .i64) A1_0 c1_0 x1.Shape, .sl Kd.float A1_1 c1_1 x1.Data] w481 := hm465.still hg482
                        refine quiet0 [0, 1, 2, 3, 4, 5, 6, 7] [.slice A123 s354.2.length c124] [2, 3, 4, 6, 8, 9, 10, 11, 114, 119, 120] #[true, true, true, true, true, true, true, true, false, false, false] [(2, .pointer (some ⟨b21, 0, none⟩)), (3, .pointer (some ⟨b28, 0, none⟩)), (4, .pointer (some ⟨b35, 0, none⟩)), (6, .pointer (some ⟨b130, 0, none⟩)), (8, .int .i64 (rd x0.Shape 1)), (9, .int .i64 (rd x1.Shape 1)), (10, .int .i64 s341.1), (11, .int .i64 s354.1), (114, .slice A123 s354.2.length c124), (119, .int .i64 (w64 ((w64 (s341.1 * (rd x1.Shape 1))) + s354.1))), (120, .slice A367 r381.2.length c368)] [.cell ⟨b130, 1, none⟩ (.slice A123 s354.2.length c124)] 3 rfl (by kernel_rfl) (fun _ _ _ _ _ h => nomatch h.1) hf464 (by kernel_rfl) ⟨(hm483.cell 1 rfl rfl), trivial⟩ fun a500 hf501 => ?_
                        refine all1 8 (by kernel_rfl) ?_
                        have hm502 : Mem [] M w0 [.sl Kd.float A367 c368 r381.2, .bx b130 [.slice A121 r111.1.Shape.length c122, .slice A123 s354.2.length c124] 42, .ow (Kd.int .i64) 3 A121 c122 r111.1.Shape, .ow Kd.float 47 A123 c124 s354.2, .bx b35 [.slice none 0 0, .slice none 0 0] 42, .bx b28 [.slice A1_0 x1.Shape.length c1_0, .slice A1_1 x1.Data.length c1_1] 42, .bx b21 [.slice A0_0 x0.Shape.length c0_0, .slice A0_1 x0.Data.length c0_1] 42, .sl (Kd.int .i64) A0_0 c0_0 x0.Shape, .sl Kd.float A0_1 c0_1 x0.Data, .sl (Kd.int .i64) A1_0 c1_0 x1.Shape, .sl Kd.float A1_1 c1_1 x1.Data] w481 := hm483.seal 0 _ rfl rfl
                        refine opOf hf501 rfl (by kernel_rfl) (aCall (fid := 61) (args := [.slice A367 r381.2.length c368]) (d := 121) hf501 (by kernel_rfl) (by kernel_rfl) callable61 (ref1_Row.calls _ _ r381.2 A367 r381.2.length c368 rfl (hm502.give [0] [.sl Kd.float A367 c368 r381.2] rfl rfl) r466 hr466) ?_)
                        rintro _ w504 a505 ⟨b503, rfl, hb503, hk507⟩ hf506
                        refine ⟨.inr (Gr.still hk507.cum.none), ?_⟩
                        have hm508 : Mem [] M w0 [.ow Kd.float 47 A367 c368 r381.2, .bx b130 [.slice A121 r111.1.Shape.length c122, .slice A123 s354.2.length c124] 42, .ow (Kd.int .i64) 3 A121 c122 r111.1.Shape, .ow Kd.float 47 A123 c124 s354.2, .bx b35 [.slice none 0 0, .slice none 0 0] 42, .bx b28 [.slice A1_0 x1.Shape.length c1_0, .slice A1_1 x1.Data.length c1_1] 42, .bx b21 [.slice A0_0 x0.Shape.length c0_0, .slice A0_1 x0.Data.length c0_1] 42, .sl (Kd.int .i64) A0_0 c0_0 x0.Shape, .sl Kd.float A0_1 c0_1 x0.Data, .sl (Kd.int .i64) A1_0 c1_0 x1.Shape, .sl Kd.float A1_1 c1_1 x1.Data] w504 := hm483.still hk507.cum.none
                        have q509 := (hm508.owAt 3 rfl).float (w64 ((w64 (s341.1 * (rd x1.Shape 1))) + s354.1)) g467.1 g467.2
                        obtain ⟨b510, hb510, kb510⟩ := q509.2
                        refine quiet0 [9] [] [2, 3, 4, 6, 8, 9, 10, 11, 121, 122] #[true, true, true, true, true, true, true, true, true, true, false] [(2, .pointer (some ⟨b21, 0, none⟩)), (3, .pointer (some ⟨b28, 0, none⟩)), (4, .pointer (some ⟨b35, 0, none⟩)), (6, .pointer (some ⟨b130, 0, none⟩)), (8, .int .i64 (rd x0.Shape 1)), (9, .int .i64 (rd x1.Shape 1)), (10, .int .i64 s341.1), (11, .int .i64 s354.1), (121, .float .f64 b503), (122, .pointer (some ((ad A123).add (((w64 ((w64 (s341.1 * (rd x1.Shape 1))) + s354.1))).toNat * 1))))] [.is (Option.isSome A123 = true), .is (0 ≤ (w64 ((w64 (s341.1 * (rd x1.Shape 1))) + s354.1)) ∧ (w64 ((w64 (s341.1 * (rd x1.Shape 1))) + s354.1)) < (s354.2.length : Int))] 1 rfl (by kernel_rfl) (fun _ _ _ _ _ h => nomatch h.1) hf506 (by kernel_rfl) ⟨q509.1, g467, trivial⟩ fun a511 hf512 => ?_
                        refine all1 10 (by kernel_rfl) ?_
                        refine opOf hf512 rfl (by kernel_rfl) (aStoreO (kd := Kd.float) (base := 0) (E := 47) (A := A123) (c := c124) (xs := s354.2) (i := (w64 ((w64 (s341.1 * (rd x1.Shape 1))) + s354.1))) (x := r466) (us := [.float .f64 b503]) (sz := 1) hf512 (by kernel_rfl) rfl (by kernel_rfl) (hm508.at 3 rfl) ⟨_, rfl, hb503⟩ g467.1 g467.2 ?_)
                        intro w513 hx514 hg515
                        refine ⟨.inl (by decide), ?_⟩
                        have hm516 : Mem [] M w0 [.ow Kd.float 47 A367 c368 r381.2, .bx b130 [.slice A121 r111.1.Shape.length c122, .slice A123 s354.2.length c124] 42, .ow (Kd.int .i64) 3 A121 c122 r111.1.Shape, .ow Kd.float 47 A123 c124 (put s354.2 (w64 ((w64 (s341.1 * (rd x1.Shape 1))) + s354.1)) r466), .bx b35 [.slice none 0 0, .slice none 0 0] 42, .bx b28 [.slice A1_0 x1.Shape.length c1_0, .slice A1_1 x1.Data.length c1_1] 42, .bx b21 [.slice A0_0 x0.Shape.length c0_0, .slice A0_1 x0.Data.length c0_1] 42, .sl (Kd.int .i64) A0_0 c0_0 x0.Shape, .sl Kd.float A0_1 c0_1 x0.Data, .sl (Kd.int .i64) A1_0 c1_0 x1.Shape, .sl Kd.float A1_1 c1_1 x1.Data] w513 := hm508.setOwn 3 _ rfl rfl hx514 hg515 (.inl rfl)
                        refine allDone (by kernel_rfl) ⟨rfl, hf512.sel (l := [2, 3, 4, 6, 8, 9, 10, 11]) (by kernel_rfl), hm516.sel [1, 2, 3, 4, 5, 6, 7, 8, 9, 10] _ rfl (by kernel_rfl)⟩
                      rintro a517 w518 ⟨hf519, hm520⟩
                      refine blkN ?_
                      refine thenN ?_
                      refine reg [] [2, 3, 4, 6, 8, 9, 10, 11] [(2, .pointer (some ⟨b21, 0, none⟩)), (3, .pointer (some ⟨b28, 0, none⟩)), (4, .pointer (some ⟨b35, 0, none⟩)), (6, .pointer (some ⟨b130, 0, none⟩)), (8, .int .i64 (rd x0.Shape 1)), (9, .int .i64 (rd x1.Shape 1)), (10, .int .i64 s341.1), (11, .int .i64 (w64 (s354.1 + 1)))] [] hf519 (by kernel_rfl) trivial fun a521 hf522 => ?_
                      have hf523 : Fr 124 a521 [(2, .pointer (some ⟨b21, 0, none⟩)), (3, .pointer (some ⟨b28, 0, none⟩)), (4, .pointer (some ⟨b35, 0, none⟩)), (6, .pointer (some ⟨b130, 0, none⟩)), (8, .int .i64 (rd x0.Shape 1)), (9, .int .i64 (rd x1.Shape 1)), (10, .int .i64 s341.1), (11, .int .i64 (w64 (s354.1 + 1)))] := hf522.sel (l := [2, 3, 4, 6, 8, 9, 10, 11]) (by kernel_rfl)
                      have hm524 : Mem [] M w0 [.bx b130 [.slice A121 r111.1.Shape.length c122, .slice A123 s354.2.length c124] 42, .ow (Kd.int .i64) 3 A121 c122 r111.1.Shape, .ow Kd.float 47 A123 c124 (put s354.2 (w64 ((w64 (s341.1 * (rd x1.Shape 1))) + s354.1)) r466), .bx b35 [.slice none 0 0, .slice none 0 0] 42, .bx b28 [.slice A1_0 x1.Shape.length c1_0, .slice A1_1 x1.Data.length c1_1] 42, .bx b21 [.slice A0_0 x0.Shape.length c0_0, .slice A0_1 x0.Data.length c0_1] 42, .sl (Kd.int .i64) A0_0 c0_0 x0.Shape, .sl Kd.float A0_1 c0_1 x0.Data, .sl (Kd.int .i64) A1_0 c1_0 x1.Shape, .sl Kd.float A1_1 c1_1 x1.Data] w518 := hm520.sel [0, 1, 2, 3, 4, 5, 6, 7, 8, 9] _ rfl (by kernel_rfl)
                      exact ⟨((w64 (s354.1 + 1)), (put s354.2 (w64 ((w64 (s341.1 * (rd x1.Shape 1))) + s354.1)) r466)), H2, (by simpa only [put_length, List.length_nil] using hf523), (by simpa only [put_length, List.length_nil] using hm524)⟩
                    · refine reg [.bool false] [2, 3, 4, 6, 8, 9, 10, 11, 81] [(2, .pointer (some ⟨b21, 0, none⟩)), (3, .pointer (some ⟨b28, 0, none⟩)), (4, .pointer (some ⟨b35, 0, none⟩)), (6, .pointer (some ⟨b130, 0, none⟩)), (8, .int .i64 (rd x0.Shape 1)), (9, .int .i64 (rd x1.Shape 1)), (10, .int .i64 s341.1), (11, .int .i64 s354.1), (81, .bool false)] [.is (decide (s354.1 < (rd x1.Shape 1)) = false)] hf359 (by kernel_rfl) ⟨(decide_eq_false c361), trivial⟩ fun a525 hf526 => ?_
                      refine thenN ?_
                      refine condF hf526 (by kernel_rfl) ?_
                      refine wp_exit ?_
                      refine thenE ?_
                      refine thenE ?_
                      obtain rfl := Option.some.inj H2
                      exact .inl ⟨rfl, hf526.sel (l := [2, 3, 4, 6, 8, 9, 10, 11]) (by kernel_rfl), hm360.sel [0, 1, 2, 3, 4, 5, 6, 7, 8, 9] _ rfl (by kernel_rfl)⟩
                  rintro a527 w528 ⟨hf529, hm530⟩
                  refine blkN ?_
                  refine thenN ?_
                  refine reg [] [2, 3, 4, 6, 8, 9, 10] [(2, .pointer (some ⟨b21, 0, none⟩)), (3, .pointer (some ⟨b28, 0, none⟩)), (4, .pointer (some ⟨b35, 0, none⟩)), (6, .pointer (some ⟨b130, 0, none⟩)), (8, .int .i64 (rd x0.Shape 1)), (9, .int .i64 (rd x1.Shape 1)), (10, .int .i64 (w64 (s341.1 + 1)))] [] hf529 (by kernel_rfl) trivial fun a531 hf532 => ?_
                  exact ⟨((w64 (s341.1 + 1)), r355.2), H1, hf532.sel (l := [2, 3, 4, 6, 8, 9, 10]) (by kernel_rfl), hm530.sel [0, 1, 2, 3, 4, 5, 6, 7, 8, 9] _ rfl (by kernel_rfl)⟩
                · have q533 := (hm347.slAt 6 rfl).int 0 g109.1 g109.2
                  refine reg [.slice A0_0 x0.Shape.length c0_0, .int .i64 (rd x0.Shape 0), .bool false] [2, 3, 4, 6, 8, 9, 10, 76] [(2, .pointer (some ⟨b21, 0, none⟩)), (3, .pointer (some ⟨b28, 0, none⟩)), (4, .pointer (some ⟨b35, 0, none⟩)), (6, .pointer (some ⟨b130, 0, none⟩)), (8, .int .i64 (rd x0.Shape 1)), (9, .int .i64 (rd x1.Shape 1)), (10, .int .i64 s341.1), (76, .bool false)] [.cell ⟨b21, 0, none⟩ (.slice A0_0 x0.Shape.length c0_0), .is (Option.isSome A0_0 = true), .is ((0 : Int) ≤ 0 ∧ 0 < (x0.Shape.length : Int)), .cell ((ad A0_0).add ((0 : Int).toNat * 1)) (.int .i64 (rd x0.Shape 0)), .is (decide (s341.1 < (rd x0.Shape 0)) = false)] hf346 (by kernel_rfl) ⟨(hm347.cell 5 rfl rfl), q533.1, g109, q533.2, (decide_eq_false c348), trivial⟩ fun a534 hf535 => ?_
                  refine thenN ?_
                  refine condF hf535 (by kernel_rfl) ?_
                  refine wp_exit ?_
                  refine thenE ?_
                  refine thenE ?_
                  obtain rfl := Option.some.inj H1
                  exact .inl ⟨rfl, hf535.sel (l := [2, 3, 4, 6, 8, 9, 10]) (by kernel_rfl), hm347.sel [0, 1, 2, 3, 4, 5, 6, 7, 8, 9] _ rfl (by kernel_rfl)⟩
              rintro a536 w537 ⟨hf538, hm539⟩
              refine thenN ?_
              refine wp_seq ?_
              refine inReg ?_
              refine go 1 [.agg #[.slice A121 r111.1.Shape.length c122, .slice A123 r342.2.length c124]] [4, 123] [(4, .pointer (some ⟨b35, 0, none⟩)), (123, .agg #[.slice A121 r111.1.Shape.length c122, .slice A123 r342.2.length c124])] [.cell ⟨b130, 0, none⟩ (.slice A121 r111.1.Shape.length c122), .cell ⟨b130, 1, none⟩ (.slice A123 r342.2.length c124)] hf538 (by kernel_rfl) ⟨(hm539.cell 0 rfl rfl), (hm539.cell 0 rfl rfl), trivial⟩ fun a540 hf541 => ?_
              refine listOf hf541 rfl (by kernel_rfl) (aStoreB (b := b35) (j := 0) (T := 42) (cs := [.slice none 0 0, .slice none 0 0]) (us := [.slice A121 r111.1.Shape.length c122, .slice A123 r342.2.length c124]) (cs' := [.slice A121 r111.1.Shape.length c122, .slice A123 r342.2.length c124]) hf541 (by kernel_rfl) (hm539.bxAt 3 rfl) (by kernel_rfl) (by kernel_rfl) (by kernel_rfl) ?_)
              intro w542 hx543 hg544
              have hm545 : Mem [] M w0 [.bx b130 [.slice A121 r111.1.Shape.length c122, .slice A123 r342.2.length c124] 42, .ow (Kd.int .i64) 3 A121 c122 r111.1.Shape, .ow Kd.float 47 A123 c124 r342.2, .bx b35 [.slice A121 r111.1.Shape.length c122, .slice A123 r342.2.length c124] 42, .bx b28 [.slice A1_0 x1.Shape.length c1_0, .slice A1_1 x1.Data.length c1_1] 42, .bx b21 [.slice A0_0 x0.Shape.length c0_0, .slice A0_1 x0.Data.length c0_1] 42, .sl (Kd.int .i64) A0_0 c0_0 x0.Shape, .sl Kd.float A0_1 c0_1 x0.Data, .sl (Kd.int .i64) A1_0 c1_0 x1.Shape, .sl Kd.float A1_1 c1_1 x1.Data] w542 := hm539.setBox 3 _ rfl rfl hx543 hg544
              refine go 1 [] [4, 5] [(4, .pointer (some ⟨b35, 0, none⟩)), (5, .int .i64 0)] [] hf541 (by kernel_rfl) trivial fun a546 hf547 => ?_
              refine endL rfl ?_
              have hm548 : Mem [] M w0 [.ow (Kd.int .i64) 3 A121 c122 r111.1.Shape, .ow Kd.float 47 A123 c124 r342.2, .bx b35 [.slice A121 r111.1.Shape.length c122, .slice A123 r342.2.length c124] 42] w542 := hm545.sel [1, 2, 3] _ rfl (by kernel_rfl)
              refine thenN ?_
              refine wp_ret ?_
              have hm549 : Mem [] M w0 [.ow (Kd.int .i64) 3 A121 c122 r111.1.Shape, .ow Kd.float 47 A123 c124 r342.2] w542 := hm548.sel [0, 1] _ rfl (by kernel_rfl)
              obtain rfl := Option.some.inj H0
              refine ret [.agg #[.slice A121 r111.1.Shape.length c122, .slice A123 r342.2.length c124]] [.agg #[.slice A121 r111.1.Shape.length c122, .slice A123 r342.2.length c124], .int .i64 0] [.cell ⟨b35, 0, none⟩ (.slice A121 r111.1.Shape.length c122), .cell ⟨b35, 1, none⟩ (.slice A123 r342.2.length c124)] hf547 (by kernel_rfl) ⟨(hm548.cell 2 rfl rfl), (hm548.cell 2 rfl rfl), trivial⟩ ?_
              exact ⟨_, rfl, A121, c122, A123, c124, rfl, hm549⟩
            · refine reg [.bool true] [2, 3, 4, 6, 7, 60] [(2, .pointer (some ⟨b21, 0, none⟩)), (3, .pointer (some ⟨b28, 0, none⟩)), (4, .pointer (some ⟨b35, 0, none⟩)), (6, .pointer (some ⟨b130, 0, none⟩)), (7, .int .i64 r111.2), (60, .bool true)] [.is (((r111.2 : Int) != 0) = true)] hf327 (by kernel_rfl) ⟨(neT c329), trivial⟩ fun a551 hf552 => ?_
              refine thenN ?_
              refine condT hf552 (by kernel_rfl) ?_
              refine wp_seq ?_
              refine inReg ?_
              refine go 2 [] [4, 61, 62] [(4, .pointer (some ⟨b35, 0, none⟩)), (61, .agg #[.slice none 0 0, .slice none 0 0]), (62, .int .i64 r111.2)] [] hf552 (by kernel_rfl) trivial fun a553 hf554 => ?_
              refine listOf hf554 rfl (by kernel_rfl) (aStoreB (b := b35) (j := 0) (T := 42) (cs := [.slice none 0 0, .slice none 0 0]) (us := [.slice none 0 0, .slice none 0 0]) (cs' := [.slice none 0 0, .slice none 0 0]) hf554 (by kernel_rfl) (hm328.bxAt 3 rfl) (by kernel_rfl) (by kernel_rfl) (by kernel_rfl) ?_)
              intro w555 hx556 hg557
              have hm558 : Mem [] M w0 [.bx b130 [.slice A121 r111.1.Shape.length c122, .slice A123 r111.1.Data.length c124] 42, .ow (Kd.int .i64) 3 A121 c122 r111.1.Shape, .ow Kd.float 47 A123 c124 r111.1.Data, .bx b35 [.slice none 0 0, .slice none 0 0] 42, .bx b28 [.slice A1_0 x1.Shape.length c1_0, .slice A1_1 x1.Data.length c1_1] 42, .bx b21 [.slice A0_0 x0.Shape.length c0_0, .slice A0_1 x0.Data.length c0_1] 42, .sl (Kd.int .i64) A0_0 c0_0 x0.Shape, .sl Kd.float A0_1 c0_1 x0.Data, .sl (Kd.int .i64) A1_0 c1_0 x1.Shape, .sl Kd.float A1_1 c1_1 x1.Data] w555 := hm328.setBox 3 _ rfl rfl hx556 hg557
              refine go 1 [] [4, 5] [(4, .pointer (some ⟨b35, 0, none⟩)), (5, .int .i64 r111.2)] [] hf554 (by kernel_rfl) trivial fun a559 hf560 => ?_
              refine endL rfl ?_
              have hm561 : Mem [] M w0 [.bx b35 [.slice none 0 0, .slice none 0 0] 42] w555 := hm558.sel [3] _ rfl (by kernel_rfl)
              refine thenN ?_
              refine wp_ret ?_
              refine thenR ?_
              have hm562 : Mem [] M w0 [.ow (Kd.int .i64) 3 none 0 ([] : (List Int)), .bx b35 [.slice none 0 0, .slice none 0 0] 42] w555 := hm561.nilOw (Kd.int .i64) 3
              have hm563 : Mem [] M w0 [.ow Kd.float 47 none 0 ([] : (List Nat)), .ow (Kd.int .i64) 3 none 0 ([] : (List Int)), .bx b35 [.slice none 0 0, .slice none 0 0] 42] w555 := hm562.nilOw Kd.float 47
              have hm564 : Mem [] M w0 [.ow (Kd.int .i64) 3 none 0 ([] : (List Int)), .ow Kd.float 47 none 0 ([] : (List Nat))] w555 := hm563.sel [1, 0] _ rfl (by kernel_rfl)
              obtain rfl := Option.some.inj H0
              refine ret [.agg #[.slice none 0 0, .slice none 0 0]] [.agg #[.slice none 0 0, .slice none 0 0], .int .i64 r111.2] [.cell ⟨b35, 0, none⟩ (.slice none 0 0), .cell ⟨b35, 1, none⟩ (.slice none 0 0)] hf560 (by kernel_rfl) ⟨(hm561.cell 0 rfl rfl), (hm561.cell 0 rfl rfl), trivial⟩ ?_
              exact ⟨_, rfl, none, 0, none, 0, rfl, hm564⟩
          · refine midReg (fun (a : Act) (w : World) => Fr 124 a [(2, .pointer (some ⟨b21, 0, none⟩)), (3, .pointer (some ⟨b28, 0, none⟩)), (4, .pointer (some ⟨b35, 0, none⟩)), (44, .bool true)] ∧ Mem [] M w0 [.bx b35 [.slice none 0 0, .slice none 0 0] 42, .bx b28 [.slice A1_0 x1.Shape.length c1_0, .slice A1_1 x1.Data.length c1_1] 42, .bx b21 [.slice A0_0 x0.Shape.length c0_0, .slice A0_1 x0.Data.length c0_1] 42, .sl (Kd.int .i64) A0_0 c0_0 x0.Shape, .sl Kd.float A0_1 c0_1 x0.Data, .sl (Kd.int .i64) A1_0 c1_0 x1.Shape, .sl Kd.float A1_1 c1_1 x1.Data] w) ?_ ?_
            · refine anyG [] (by kernel_rfl) fun w578 hg579 => ?_
              have hm580 : Mem [] M w0 [.bx b35 [.slice none 0 0, .slice none 0 0] 42, .bx b28 [.slice A1_0 x1.Shape.length c1_0, .slice A1_1 x1.Data.length c1_1] 42, .bx b21 [.slice A0_0 x0.Shape.length c0_0, .slice A0_1 x0.Data.length c0_1] 42, .sl (Kd.int .i64) A0_0 c0_0 x0.Shape, .sl Kd.float A0_1 c0_1 x0.Data, .sl (Kd.int .i64) A1_0 c1_0 x1.Shape, .sl Kd.float A1_1 c1_1 x1.Data] w578 := hm41.still hg579
              refine quiet0 [0] [.agg #[.slice A0_0 x0.Shape.length c0_0, .slice A0_1 x0.Data.length c0_1]] [2, 3, 4, 14] #[true, false, false, false, false, false, false, false, false, false, false, false, false, false, false, false, false, false, false, false, false, false, false, false, false, false, false, false, false, false, false] [(2, .pointer (some ⟨b21, 0, none⟩)), (3, .pointer (some ⟨b28, 0, none⟩)), (4, .pointer (some ⟨b35, 0, none⟩)), (14, .agg #[.slice A0_0 x0.Shape.length c0_0, .slice A0_1 x0.Data.length c0_1])] [.cell ⟨b21, 0, none⟩ (.slice A0_0 x0.Shape.length c0_0), .cell ⟨b21, 1, none⟩ (.slice A0_1 x0.Data.length c0_1)] 30 rfl (by kernel_rfl) (fun _ _ _ _ _ h => nomatch h.1) hf43 (by kernel_rfl) ⟨(hm580.cell 2 rfl rfl), (hm580.cell 2 rfl rfl), trivial⟩ fun a599 hf600 => ?_
              refine all1 1 (by kernel_rfl) ?_
              refine opOf hf600 rfl (by kernel_rfl) (aCall (fid := 41) (args := [.agg #[.slice A0_0 x0.Shape.length c0_0, .slice A0_1 x0.Data.length c0_1]]) (d := 15) hf600 (by kernel_rfl) (by kernel_rfl) callable41 (ref1_TensorMay.calls _ _ x0 A0_0 x0.Shape.length c0_0 rfl A0_1 x0.Data.length c0_1 rfl (hm580.give [3, 4] [.sl (Kd.int .i64) A0_0 c0_0 x0.Shape, .sl Kd.float A0_1 c0_1 x0.Data] rfl rfl) r44 hr44) ?_)
              rintro _ w601 a602 ⟨rfl, hk604⟩ hf603
              refine ⟨.inr (Gr.still hk604.cum.none), ?_⟩
              have hm605 : Mem [] M w0 [.bx b35 [.slice none 0 0, .slice none 0 0] 42, .bx b28 [.slice A1_0 x1.Shape.length c1_0, .slice A1_1 x1.Data.length c1_1] 42, .bx b21 [.slice A0_0 x0.Shape.length c0_0, .slice A0_1 x0.Data.length c0_1] 42, .sl (Kd.int .i64) A0_0 c0_0 x0.Shape, .sl Kd.float A0_1 c0_1 x0.Data, .sl (Kd.int .i64) A1_0 c1_0 x1.Shape, .sl Kd.float A1_1 c1_1 x1.Data] w601 := hm580.still hk604.cum.none
              rw [c45] at hf603
              refine quiet0 [2, 3, 4] [.agg #[.slice A1_0 x1.Shape.length c1_0, .slice A1_1 x1.Data.length c1_1]] [2, 3, 4, 17, 18] #[true, true, true, true, true, false, false, false, false, false, false, false, false, false, false, false, false, false, false, false, false, false, false, false, false, false, false, false, false, false, false] [(2, .pointer (some ⟨b21, 0, none⟩)), (3, .pointer (some ⟨b28, 0, none⟩)), (4, .pointer (some ⟨b35, 0, none⟩)), (17, .bool false), (18, .agg #[.slice A1_0 x1.Shape.length c1_0, .slice A1_1 x1.Data.length c1_1])] [.cell ⟨b28, 0, none⟩ (.slice A1_0 x1.Shape.length c1_0), .cell ⟨b28, 1, none⟩ (.slice A1_1 x1.Data.length c1_1)] 26 rfl (by kernel_rfl) (fun _ _ _ _ _ h => nomatch h.1) hf603 (by kernel_rfl) ⟨(hm605.cell 1 rfl rfl), (hm605.cell 1 rfl rfl), trivial⟩ fun a606 hf607 => ?_
              refine all1 5 (by kernel_rfl) ?_
              refine opOf hf607 rfl (by kernel_rfl) (aCall (fid := 41) (args := [.agg #[.slice A1_0 x1.Shape.length c1_0, .slice A1_1 x1.Data.length c1_1]]) (d := 19) hf607 (by kernel_rfl) (by kernel_rfl) callable41 (ref1_TensorMay.calls _ _ x1 A1_0 x1.Shape.length c1_0 rfl A1_1 x1.Data.length c1_1 rfl (hm605.give [5, 6] [.sl (Kd.int .i64) A1_0 c1_0 x1.Shape, .sl Kd.float A1_1 c1_1 x1.Data] rfl rfl) r46 hr46) ?_)
              rintro _ w608 a609 ⟨rfl, hk611⟩ hf610
              refine ⟨.inr (Gr.still hk611.cum.none), ?_⟩
              have hm612 : Mem [] M w0 [.bx b35 [.slice none 0 0, .slice none 0 0] 42, .bx b28 [.slice A1_0 x1.Shape.length c1_0, .slice A1_1 x1.Data.length c1_1] 42, .bx b21 [.slice A0_0 x0.Shape.length c0_0, .slice A0_1 x0.Data.length c0_1] 42, .sl (Kd.int .i64) A0_0 c0_0 x0.Shape, .sl Kd.float A0_1 c0_1 x0.Data, .sl (Kd.int .i64) A1_0 c1_0 x1.Shape, .sl Kd.float A1_1 c1_1 x1.Data] w608 := hm605.still hk611.cum.none
              rw [c47] at hf610
              have q613 := (hm612.slAt 3 rfl).int 1 g50.1 g50.2
              have q614 := (hm612.slAt 5 rfl).int 0 g51.1 g51.2
              refine quiet0 [6, 7, 8, 9, 10, 11, 12, 13, 14, 15, 16, 17, 18, 19, 20, 21, 22, 23, 24, 25, 26, 27, 28, 29, 30] [.slice A0_0 x0.Shape.length c0_0, .bool false, .slice A1_0 x1.Shape.length c1_0, .bool false, .slice A0_0 x0.Shape.length c0_0, .int .i64 (rd x0.Shape 1), .slice A1_0 x1.Shape.length c1_0, .int .i64 (rd x1.Shape 0), .bool true] [2, 3, 4, 44] #[true, true, true, true, true, true, true, true, true, true, true, true, true, true, true, true, true, true, true, true, true, true, true, true, true, true, true, true, true, true, true] [(2, .pointer (some ⟨b21, 0, none⟩)), (3, .pointer (some ⟨b28, 0, none⟩)), (4, .pointer (some ⟨b35, 0, none⟩)), (44, .bool true)] [.cell ⟨b21, 0, none⟩ (.slice A0_0 x0.Shape.length c0_0), .is ((((x0.Shape.length : Int) : Int) != 2) = false), .cell ⟨b28, 0, none⟩ (.slice A1_0 x1.Shape.length c1_0), .is ((((x1.Shape.length : Int) : Int) != 2) = false), .cell ⟨b21, 0, none⟩ (.slice A0_0 x0.Shape.length c0_0), .is (Option.isSome A0_0 = true), .is ((0 : Int) ≤ 1 ∧ 1 < (x0.Shape.length : Int)), .cell ((ad A0_0).add ((1 : Int).toNat * 1)) (.int .i64 (rd x0.Shape 1)), .cell ⟨b28, 0, none⟩ (.slice A1_0 x1.Shape.length c1_0), .is (Option.isSome A1_0 = true), .is ((0 : Int) ≤ 0 ∧ 0 < (x1.Shape.length : Int)), .cell ((ad A1_0).add ((0 : Int).toNat * 1)) (.int .i64 (rd x1.Shape 0)), .is ((((rd x0.Shape 1) : Int) != (rd x1.Shape 0)) = true)] 0 rfl (by kernel_rfl) (fun _ _ _ _ _ h => nomatch h.1) hf610 (by kernel_rfl) ⟨(hm612.cell 2 rfl rfl), (neF c48), (hm612.cell 1 rfl rfl), (neF c49), (hm612.cell 2 rfl rfl), q613.1, g50, q613.2, (hm612.cell 1 rfl rfl), q614.1, g51, q614.2, (neT c52), trivial⟩ fun a615 hf616 => ?_
              refine allDone (by kernel_rfl) ⟨rfl, hf616.sel (l := [2, 3, 4, 44]) (by kernel_rfl), hm612.sel [0, 1, 2, 3, 4, 5, 6] _ rfl (by kernel_rfl)⟩
            rintro a617 w618 ⟨hf619, hm620⟩
            refine thenN ?_
            refine condT hf619 (by kernel_rfl) ?_
            refine wp_seq ?_
            refine inReg ?_
            refine go 1 [] [4, 45] [(4, .pointer (some ⟨b35, 0, none⟩)), (45, .agg #[.slice none 0 0, .slice none 0 0])] [] hf619 (by kernel_rfl) trivial fun a621 hf622 => ?_
            refine listOf hf622 rfl (by kernel_rfl) (aStoreB (b := b35) (j := 0) (T := 42) (cs := [.slice none 0 0, .slice none 0 0]) (us := [.slice none 0 0, .slice none 0 0]) (cs' := [.slice none 0 0, .slice none 0 0]) hf622 (by kernel_rfl) (hm620.bxAt 0 rfl) (by kernel_rfl) (by kernel_rfl) (by kernel_rfl) ?_)
            intro w623 hx624 hg625
            have hm626 : Mem [] M w0 [.bx b35 [.slice none 0 0, .slice none 0 0] 42, .bx b28 [.slice A1_0 x1.Shape.length c1_0, .slice A1_1 x1.Data.length c1_1] 42, .bx b21 [.slice A0_0 x0.Shape.length c0_0, .slice A0_1 x0.Data.length c0_1] 42, .sl (Kd.int .i64) A0_0 c0_0 x0.Shape, .sl Kd.float A0_1 c0_1 x0.Data, .sl (Kd.int .i64) A1_0 c1_0 x1.Shape, .sl Kd.float A1_1 c1_1 x1.Data] w623 := hm620.setBox 0 _ rfl rfl hx624 hg625
            refine go 1 [] [4, 5] [(4, .pointer (some ⟨b35, 0, none⟩)), (5, .int .i64 2)] [] hf622 (by kernel_rfl) trivial fun a627 hf628 => ?_
            refine endL rfl ?_
            have hm629 : Mem [] M w0 [.bx b35 [.slice none 0 0, .slice none 0 0] 42] w623 := hm626.sel [0] _ rfl (by kernel_rfl)
            refine thenN ?_
            refine wp_ret ?_
            refine thenR ?_
            have hm630 : Mem [] M w0 [.ow (Kd.int .i64) 3 none 0 ([] : (List Int)), .bx b35 [.slice none 0 0, .slice none 0 0] 42] w623 := hm629.nilOw (Kd.int .i64) 3
            have hm631 : Mem [] M w0 [.ow Kd.float 47 none 0 ([] : (List Nat)), .ow (Kd.int .i64) 3 none 0 ([] : (List Int)), .bx b35 [.slice none 0 0, .slice none 0 0] 42] w623 := hm630.nilOw Kd.float 47
            have hm632 : Mem [] M w0 [.ow (Kd.int .i64) 3 none 0 ([] : (List Int)), .ow Kd.float 47 none 0 ([] : (List Nat))] w623 := hm631.sel [1, 0] _ rfl (by kernel_rfl)
            obtain rfl := Option.some.inj H0
            refine ret [.agg #[.slice none 0 0, .slice none 0 0]] [.agg #[.slice none 0 0, .slice none 0 0], .int .i64 2] [.cell ⟨b35, 0, none⟩ (.slice none 0 0), .cell ⟨b35, 1, none⟩ (.slice none 0 0)] hf628 (by kernel_rfl) ⟨(hm629.cell 0 rfl rfl), (hm629.cell 0 rfl rfl), trivial⟩ ?_
            exact ⟨_, rfl, none, 0, none, 0, rfl, hm632⟩
        · refine midReg (fun (a : Act) (w : World) => Fr 124 a [(2, .pointer (some ⟨b21, 0, none⟩)), (3, .pointer (some ⟨b28, 0, none⟩)), (4, .pointer (some ⟨b35, 0, none⟩)), (44, .bool true)] ∧ Mem [] M w0 [.bx b35 [.slice none 0 0, .slice none 0 0] 42, .bx b28 [.slice A1_0 x1.Shape.length c1_0, .slice A1_1 x1.Data.length c1_1] 42, .bx b21 [.slice A0_0 x0.Shape.length c0_0, .slice A0_1 x0.Data.length c0_1] 42, .sl (Kd.int .i64) A0_0 c0_0 x0.Shape, .sl Kd.float A0_1 c0_1 x0.Data, .sl (Kd.int .i64) A1_0 c1_0 x1.Shape, .sl Kd.float A1_1 c1_1 x1.Data] w) ?_ ?_
          · refine anyG [] (by kernel_rfl) fun w644 hg645 => ?_
            have hm646 : Mem [] M w0 [.bx b35 [.slice none 0 0, .slice none 0 0] 42, .bx b28 [.slice A1_0 x1.Shape.length c1_0, .slice A1_1 x1.Data.length c1_1] 42, .bx b21 [.slice A0_0 x0.Shape.length c0_0, .slice A0_1 x0.Data.length c0_1] 42, .sl (Kd.int .i64) A0_0 c0_0 x0.Shape, .sl Kd.float A0_1 c0_1 x0.Data, .sl (Kd.int .i64) A1_0 c1_0 x1.Shape, .sl Kd.float A1_1 c1_1 x1.Data] w644 := hm41.still hg645
            refine quiet0 [0] [.agg #[.slice A0_0 x0.Shape.length c0_0, .slice A0_1 x0.Data.length c0_1]] [2, 3, 4, 14] #[true, false, false, false, false, false, false, false, false, false, false, false, false, false, false, false, false, false, false, false, false, false, false, false, false, false, false, false, false, false, false] [(2, .pointer (some ⟨b21, 0, none⟩)), (3, .pointer (some ⟨b28, 0, none⟩)), (4, .pointer (some ⟨b35, 0, none⟩)), (14, .agg #[.slice A0_0 x0.Shape.length c0_0, .slice A0_1 x0.Data.length c0_1])] [.cell ⟨b21, 0, none⟩ (.slice A0_0 x0.Shape.length c0_0), .cell ⟨b21, 1, none⟩ (.slice A0_1 x0.Data.length c0_1)] 30 rfl (by kernel_rfl) (fun _ _ _ _ _ h => nomatch h.1) hf43 (by kernel_rfl) ⟨(hm646.cell 2 rfl rfl), (hm646.cell 2 rfl rfl), trivial⟩ fun a663 hf664 => ?_
            refine all1 1 (by kernel_rfl) ?_
            refine opOf hf664 rfl (by kernel_rfl) (aCall (fid := 41) (args := [.agg #[.slice A0_0 x0.Shape.length c0_0, .slice A0_1 x0.Data.length c0_1]]) (d := 15) hf664 (by kernel_rfl) (by kernel_rfl) callable41 (ref1_TensorMay.calls _ _ x0 A0_0 x0.Shape.length c0_0 rfl A0_1 x0.Data.length c0_1 rfl (hm646.give [3, 4] [.sl (Kd.int .i64) A0_0 c0_0 x0.Shape, .sl Kd.float A0_1 c0_1 x0.Data] rfl rfl) r44 hr44) ?_)
            rintro _ w665 a666 ⟨rfl, hk668⟩ hf667
            refine ⟨.inr (Gr.still hk668.cum.none), ?_⟩
            have hm669 : Mem [] M w0 [.bx b35 [.slice none 0 0, .slice none 0 0] 42, .bx b28 [.slice A1_0 x1.Shape.length c1_0, .slice A1_1 x1.Data.length c1_1] 42, .bx b21 [.slice A0_0 x0.Shape.length c0_0, .slice A0_1 x0.Data.length c0_1] 42, .sl (Kd.int .i64) A0_0 c0_0 x0.Shape, .sl Kd.float A0_1 c0_1 x0.Data, .sl (Kd.int .i64) A1_0 c1_0 x1.Shape, .sl Kd.float A1_1 c1_1 x1.Data] w665 := hm646.still hk668.cum.none
            rw [c45] at hf667
            refine quiet0 [2, 3, 4] [.agg #[.slice A1_0 x1.Shape.length c1_0, .slice A1_1 x1.Data.length c1_1]] [2, 3, 4, 17, 18] #[true, true, true, true, true, false, false, false, false, false, false, false, false, false, false, false, false, false, false, false, false, false, false, false, false, false, false, false, false, false, false] [(2, .pointer (some ⟨b21, 0, none⟩)), (3, .pointer (some ⟨b28, 0, none⟩)), (4, .pointer (some ⟨b35, 0, none⟩)), (17, .bool false), (18, .agg #[.slice A1_0 x1.Shape.length c1_0, .slice A1_1 x1.Data.length c1_1])] [.cell ⟨b28, 0, none⟩ (.slice A1_0 x1.Shape.length c1_0), .cell ⟨b28, 1, none⟩ (.slice A1_1 x1.Data.length c1_1)] 26 rfl (by kernel_rfl) (fun _ _ _ _ _ h => nomatch h.1) hf667 (by kernel_rfl) ⟨(hm669.cell 1 rfl rfl), (hm669.cell 1 rfl rfl), trivial⟩ fun a670 hf671 => ?_
            refine all1 5 (by kernel_rfl) ?_
            refine opOf hf671 rfl (by kernel_rfl) (aCall (fid := 41) (args := [.agg #[.slice A1_0 x1.Shape.length c1_0, .slice A1_1 x1.Data.length c1_1]]) (d := 19) hf671 (by kernel_rfl) (by kernel_rfl) callable41 (ref1_TensorMay.calls _ _ x1 A1_0 x1.Shape.length c1_0 rfl A1_1 x1.Data.length c1_1 rfl (hm669.give [5, 6] [.sl (Kd.int .i64) A1_0 c1_0 x1.Shape, .sl Kd.float A1_1 c1_1 x1.Data] rfl rfl) r46 hr46) ?_)
            rintro _ w672 a673 ⟨rfl, hk675⟩ hf674
            refine ⟨.inr (Gr.still hk675.cum.none), ?_⟩
            have hm676 : Mem [] M w0 [.bx b35 [.slice none 0 0, .slice none 0 0] 42, .bx b28 [.slice A1_0 x1.Shape.length c1_0, .slice A1_1 x1.Data.length c1_1] 42, .bx b21 [.slice A0_0 x0.Shape.length c0_0, .slice A0_1 x0.Data.length c0_1] 42, .sl (Kd.int .i64) A0_0 c0_0 x0.Shape, .sl Kd.float A0_1 c0_1 x0.Data, .sl (Kd.int .i64) A1_0 c1_0 x1.Shape, .sl Kd.float A1_1 c1_1 x1.Data] w672 := hm669.still hk675.cum.none
            rw [c47] at hf674
            refine quiet0 [6, 7, 8, 9, 10, 11, 12, 13, 14, 15, 16, 17, 18, 19, 20, 21, 22, 23, 24, 25, 26, 27, 28, 29, 30] [.slice A0_0 x0.Shape.length c0_0, .bool false, .slice A1_0 x1.Shape.length c1_0, .bool true] [2, 3, 4, 44] #[true, true, true, true, true, true, true, true, true, true, true, true, true, true, true, true, true, true, true, true, true, true, true, true, true, true, true, true, true, true, true] [(2, .pointer (some ⟨b21, 0, none⟩)), (3, .pointer (some ⟨b28, 0, none⟩)), (4, .pointer (some ⟨b35, 0, none⟩)), (44, .bool true)] [.cell ⟨b21, 0, none⟩ (.slice A0_0 x0.Shape.length c0_0), .is ((((x0.Shape.length : Int) : Int) != 2) = false), .cell ⟨b28, 0, none⟩ (.slice A1_0 x1.Shape.length c1_0), .is ((((x1.Shape.length : Int) : Int) != 2) = true)] 0 rfl (by kernel_rfl) (fun _ _ _ _ _ h => nomatch h.1) hf674 (by kernel_rfl) ⟨(hm676.cell 2 rfl rfl), (neF c48), (hm676.cell 1 rfl rfl), (neT c49), trivial⟩ fun a677 hf678 => ?_
            refine allDone (by kernel_rfl) ⟨rfl, hf678.sel (l := [2, 3, 4, 44]) (by kernel_rfl), hm676.sel [0, 1, 2, 3, 4, 5, 6] _ rfl (by kernel_rfl)⟩
          rintro a679 w680 ⟨hf681, hm682⟩
          refine thenN ?_
          refine condT hf681 (by kernel_rfl) ?_
          refine wp_seq ?_
          refine inReg ?_
          refine go 1 [] [4, 45] [(4, .pointer (some ⟨b35, 0, none⟩)), (45, .agg #[.slice none 0 0, .slice none 0 0])] [] hf681 (by kernel_rfl) trivial fun a683 hf684 => ?_
          refine listOf hf684 rfl (by kernel_rfl) (aStoreB (b := b35) (j := 0) (T := 42) (cs := [.slice none 0 0, .slice none 0 0]) (us := [.slice none 0 0, .slice none 0 0]) (cs' := [.slice none 0 0, .slice none 0 0]) hf684 (by kernel_rfl) (hm682.bxAt 0 rfl) (by kernel_rfl) (by kernel_rfl) (by kernel_rfl) ?_)
          intro w685 hx686 hg687
          have hm688 : Mem [] M w0 [.bx b35 [.slice none 0 0, .slice none 0 0] 42, .bx b28 [.slice A1_0 x1.Shape.length c1_0, .slice A1_1 x1.Data.length c1_1] 42, .bx b21 [.slice A0_0 x0.Shape.length c0_0, .slice A0_1 x0.Data.length c0_1] 42, .sl (Kd.int .i64) A0_0 c0_0 x0.Shape, .sl Kd.float A0_1 c0_1 x0.Data, .sl (Kd.int .i64) A1_0 c1_0 x1.Shape, .sl Kd.float A1_1 c1_1 x1.Data] w685 := hm682.setBox 0 _ rfl rfl hx686 hg687
          refine go 1 [] [4, 5] [(4, .pointer (some ⟨b35, 0, none⟩)), (5, .int .i64 2)] [] hf684 (by kernel_rfl) trivial fun a689 hf690 => ?_
          refine endL rfl ?_
          have hm691 : Mem [] M w0 [.bx b35 [.slice none 0 0, .slice none 0 0] 42] w685 := hm688.sel [0] _ rfl (by kernel_rfl)
          refine thenN ?_
          refine wp_ret ?_
          refine thenR ?_
          have hm692 : Mem [] M w0 [.ow (Kd.int .i64) 3 none 0 ([] : (List Int)), .bx b35 [.slice none 0 0, .slice none 0 0] 42] w685 := hm691.nilOw (Kd.int .i64) 3
          have hm693 : Mem [] M w0 [.ow Kd.float 47 none 0 ([] : (List Nat)), .ow (Kd.int .i64) 3 none 0 ([] : (List Int)), .bx b35 [.slice none 0 0, .slice none 0 0] 42] w685 := hm692.nilOw Kd.float 47
          have hm694 : Mem [] M w0 [.ow (Kd.int .i64) 3 none 0 ([] : (List Int)), .ow Kd.float 47 none 0 ([] : (List Nat))] w685 := hm693.sel [1, 0] _ rfl (by kernel_rfl)
          obtain rfl := Option.some.inj H0
          refine ret [.agg #[.slice none 0 0, .slice none 0 0]] [.agg #[.slice none 0 0, .slice none 0 0], .int .i64 2] [.cell ⟨b35, 0, none⟩ (.slice none 0 0), .cell ⟨b35, 1, none⟩ (.slice none 0 0)] hf690 (by kernel_rfl) ⟨(hm691.cell 0 rfl rfl), (hm691.cell 0 rfl rfl), trivial⟩ ?_
          exact ⟨_, rfl, none, 0, none, 0, rfl, hm694⟩
      · refine midReg (fun (a : Act) (w : World) => Fr 124 a [(2, .pointer (some ⟨b21, 0, none⟩)), (3, .pointer (some ⟨b28, 0, none⟩)), (4, .pointer (some ⟨b35, 0, none⟩)), (44, .bool true)] ∧ Mem [] M w0 [.bx b35 [.slice none 0 0, .slice none 0 0] 42, .bx b28 [.slice A1_0 x1.Shape.length c1_0, .slice A1_1 x1.Data.length c1_1] 42, .bx b21 [.slice A0_0 x0.Shape.length c0_0, .slice A0_1 x0.Data.length c0_1] 42, .sl (Kd.int .i64) A0_0 c0_0 x0.Shape, .sl Kd.float A0_1 c0_1 x0.Data, .sl (Kd.int .i64) A1_0 c1_0 x1.Shape, .sl Kd.float A1_1 c1_1 x1.Data] w) ?_ ?_
        · refine anyG [] (by kernel_rfl) fun w706 hg707 => ?_
          have hm708 : Mem [] M w0 [.bx b35 [.slice none 0 0, .slice none 0 0] 42, .bx b28 [.slice A1_0 x1.Shape.length c1_0, .slice A1_1 x1.Data.length c1_1] 42, .bx b21 [.slice A0_0 x0.Shape.length c0_0, .slice A0_1 x0.Data.length c0_1] 42, .sl (Kd.int .i64) A0_0 c0_0 x0.Shape, .sl Kd.float A0_1 c0_1 x0.Data, .sl (Kd.int .i64) A1_0 c1_0 x1.Shape, .sl Kd.float A1_1 c1_1 x1.Data] w706 := hm41.still hg707
          refine quiet0 [0] [.agg #[.slice A0_0 x0.Shape.length c0_0, .slice A0_1 x0.Data.length c0_1]] [2, 3, 4, 14] #[true, false, false, false, false, false, false, false, false, false, false, false, false, false, false, false, false, false, false, false, false, false, false, false, false, false, false, false, false, false, false] [(2, .pointer (some ⟨b21, 0, none⟩)), (3, .pointer (some ⟨b28, 0, none⟩)), (4, .pointer (some ⟨b35, 0, none⟩)), (14, .agg #[.slice A0_0 x0.Shape.length c0_0, .slice A0_1 x0.Data.length c0_1])] [.cell ⟨b21, 0, none⟩ (.slice A0_0 x0.Shape.length c0_0), .cell ⟨b21, 1, none⟩ (.slice A0_1 x0.Data.length c0_1)] 30 rfl (by kernel_rfl) (fun _ _ _ _ _ h => nomatch h.1) hf43 (by kernel_rfl) ⟨(hm708.cell 2 rfl rfl), (hm708.cell 2 rfl rfl), trivial⟩ fun a725 hf726 => ?_
          refine all1 1 (by kernel_rfl) ?_
          refine opOf hf726 rfl (by kernel_rfl) (aCall (fid := 41) (args := [.agg #[.slice A0_0 x0.Shape.length c0_0, .slice A0_1 x0.Data.length c0_1]]) (d := 15) hf726 (by kernel_rfl) (by kernel_rfl) callable41 (ref1_TensorMay.calls _ _ x0 A0_0 x0.Shape.length c0_0 rfl A0_1 x0.Data.length c0_1 rfl (hm708.give [3, 4] [.sl (Kd.int .i64) A0_0 c0_0 x0.Shape, .sl Kd.float A0_1 c0_1 x0.Data] rfl rfl) r44 hr44) ?_)
          rintro _ w727 a728 ⟨rfl, hk730⟩ hf729
          refine ⟨.inr (Gr.still hk730.cum.none), ?_⟩
          have hm731 : Mem [] M w0 [.bx b35 [.slice none 0 0, .slice none 0 0] 42, .bx b28 [.slice A1_0 x1.Shape.length c1_0, .slice A1_1 x1.Data.length c1_1] 42, .bx b21 [.slice A0_0 x0.Shape.length c0_0, .slice A0_1 x0.Data.length c0_1] 42, .sl (Kd.int .i64) A0_0 c0_0 x0.Shape, .sl Kd.float A0_1 c0_1 x0.Data, .sl (Kd.int .i64) A1_0 c1_0 x1.Shape, .sl Kd.float A1_1 c1_1 x1.Data] w727 := hm708.still hk730.cum.none
          rw [c45] at hf729
          refine quiet0 [2, 3, 4] [.agg #[.slice A1_0 x1.Shape.length c1_0, .slice A1_1 x1.Data.length c1_1]] [2, 3, 4, 17, 18] #[true, true, true, true, true, false, false, false, false, false, false, false, false, false, false, false, false, false, false, false, false, false, false, false, false, false, false, false, false, false, false] [(2, .pointer (some ⟨b21, 0, none⟩)), (3, .pointer (some ⟨b28, 0, none⟩)), (4, .pointer (some ⟨b35, 0, none⟩)), (17, .bool false), (18, .agg #[.slice A1_0 x1.Shape.length c1_0, .slice A1_1 x1.Data.length c1_1])] [.cell ⟨b28, 0, none⟩ (.slice A1_0 x1.Shape.length c1_0), .cell ⟨b28, 1, none⟩ (.slice A1_1 x1.Data.length c1_1)] 26 rfl (by kernel_rfl) (fun _ _ _ _ _ h => nomatch h.1) hf729 (by kernel_rfl) ⟨(hm731.cell 1 rfl rfl), (hm731.cell 1 rfl rfl), trivial⟩ fun a732 hf733 => ?_
          refine all1 5 (by kernel_rfl) ?_
          refine opOf hf733 rfl (by kernel_rfl) (aCall (fid := 41) (args := [.agg #[.slice A1_0 x1.Shape.length c1_0, .slice A1_1 x1.Data.length c1_1]]) (d := 19) hf733 (by kernel_rfl) (by kernel_rfl) callable41 (ref1_TensorMay.calls _ _ x1 A1_0 x1.Shape.length c1_0 rfl A1_1 x1.Data.length c1_1 rfl (hm731.give [5, 6] [.sl (Kd.int .i64) A1_0 c1_0 x1.Shape, .sl Kd.float A1_1 c1_1 x1.Data] rfl rfl) r46 hr46) ?_)
          rintro _ w734 a735 ⟨rfl, hk737⟩ hf736
          refine ⟨.inr (Gr.still hk737.cum.none), ?_⟩
          have hm738 : Mem [] M w0 [.bx b35 [.slice none 0 0, .slice none 0 0] 42, .bx b28 [.slice A1_0 x1.Shape.length c1_0, .slice A1_1 x1.Data.length c1_1] 42, .bx b21 [.slice A0_0 x0.Shape.length c0_0, .slice A0_1 x0.Data.length c0_1] 42, .sl (Kd.int .i64) A0_0 c0_0 x0.Shape, .sl Kd.float A0_1 c0_1 x0.Data, .sl (Kd.int .i64) A1_0 c1_0 x1.Shape, .sl Kd.float A1_1 c1_1 x1.Data] w734 := hm731.still hk737.cum.none
          rw [c47] at hf736
          refine quiet0 [6, 7, 8, 9, 10, 11, 12, 13, 14, 15, 16, 17, 18, 19, 20, 21, 22, 23, 24, 25, 26, 27, 28, 29, 30] [.slice A0_0 x0.Shape.length c0_0, .bool true] [2, 3, 4, 44] #[true, true, true, true, true, true, true, true, true, true, true, true, true, true, true, true, true, true, true, true, true, true, true, true, true, true, true, true, true, true, true] [(2, .pointer (some ⟨b21, 0, none⟩)), (3, .pointer (some ⟨b28, 0, none⟩)), (4, .pointer (some ⟨b35, 0, none⟩)), (44, .bool true)] [.cell ⟨b21, 0, none⟩ (.slice A0_0 x0.Shape.length c0_0), .is ((((x0.Shape.length : Int) : Int) != 2) = true)] 0 rfl (by kernel_rfl) (fun _ _ _ _ _ h => nomatch h.1) hf736 (by kernel_rfl) ⟨(hm738.cell 2 rfl rfl), (neT c48), trivial⟩ fun a739 hf740 => ?_
          refine allDone (by kernel_rfl) ⟨rfl, hf740.sel (l := [2, 3, 4, 44]) (by kernel_rfl), hm738.sel [0, 1, 2, 3, 4, 5, 6] _ rfl (by kernel_rfl)⟩
        rintro a741 w742 ⟨hf743, hm744⟩
        refine thenN ?_
        refine condT hf743 (by kernel_rfl) ?_
        refine wp_seq ?_
        refine inReg ?_
        refine go 1 [] [4, 45] [(4, .pointer (some ⟨b35, 0, none⟩)), (45, .agg #[.slice none 0 0, .slice none 0 0])] [] hf743 (by kernel_rfl) trivial fun a745 hf746 => ?_
        refine listOf hf746 rfl (by kernel_rfl) (aStoreB (b := b35) (j := 0) (T := 42) (cs := [.slice none 0 0, .slice none 0 0]) (us := [.slice none 0 0, .slice none 0 0]) (cs' := [.slice none 0 0, .slice none 0 0]) hf746 (by kernel_rfl) (hm744.bxAt 0 rfl) (by kernel_rfl) (by kernel_rfl) (by kernel_rfl) ?_)
        intro w747 hx748 hg749
        have hm750 : Mem [] M w0 [.bx b35 [.slice none 0 0, .slice none 0 0] 42, .bx b28 [.slice A1_0 x1.Shape.length c1_0, .slice A1_1 x1.Data.length c1_1] 42, .bx b21 [.slice A0_0 x0.Shape.length c0_0, .slice A0_1 x0.Data.length c0_1] 42, .sl (Kd.int .i64) A0_0 c0_0 x0.Shape, .sl Kd.float A0_1 c0_1 x0.Data, .sl (Kd.int .i64) A1_0 c1_0 x1.Shape, .sl Kd.float A1_1 c1_1 x1.Data] w747 := hm744.setBox 0 _ rfl rfl hx748 hg749
        refine go 1 [] [4, 5] [(4, .pointer (some ⟨b35, 0, none⟩)), (5, .int .i64 2)] [] hf746 (by kernel_rfl) trivial fun a751 hf752 => ?_
        refine endL rfl ?_
        have hm753 : Mem [] M w0 [.bx b35 [.slice none 0 0, .slice none 0 0] 42] w747 := hm750.sel [0] _ rfl (by kernel_rfl)
        refine thenN ?_
        refine wp_ret ?_
        refine thenR ?_
        have hm754 : Mem [] M w0 [.ow (Kd.int .i64) 3 none 0 ([] : (List Int)), .bx b35 [.slice none 0 0, .slice none 0 0] 42] w747 := hm753.nilOw (Kd.int .i64) 3
        have hm755 : Mem [] M w0 [.ow Kd.float 47 none 0 ([] : (List Nat)), .ow (Kd.int .i64) 3 none 0 ([] : (List Int)), .bx b35 [.slice none 0 0, .slice none 0 0] 42] w747 := hm754.nilOw Kd.float 47
        have hm756 : Mem [] M w0 [.ow (Kd.int .i64) 3 none 0 ([] : (List Int)), .ow Kd.float 47 none 0 ([] : (List Nat))] w747 := hm755.sel [1, 0] _ rfl (by kernel_rfl)
        obtain rfl := Option.some.inj H0
        refine ret [.agg #[.slice none 0 0, .slice none 0 0]] [.agg #[.slice none 0 0, .slice none 0 0], .int .i64 2] [.cell ⟨b35, 0, none⟩ (.slice none 0 0), .cell ⟨b35, 1, none⟩ (.slice none 0 0)] hf752 (by kernel_rfl) ⟨(hm753.cell 0 rfl rfl), (hm753.cell 0 rfl rfl), trivial⟩ ?_
        exact ⟨_, rfl, none, 0, none, 0, rfl, hm756⟩
    · refine midReg (fun (a : Act) (w : World) => Fr 124 a [(2, .pointer (some ⟨b21, 0, none⟩)), (3, .pointer (some ⟨b28, 0, none⟩)), (4, .pointer (some ⟨b35, 0, none⟩)), (44, .bool true)] ∧ Mem [] M w0 [.bx b35 [.slice none 0 0, .slice none 0 0] 42, .bx b28 [.slice A1_0 x1.Shape.length c1_0, .slice A1_1 x1.Data.length c1_1] 42, .bx b21 [.slice A0_0 x0.Shape.length c0_0, .slice A0_1 x0.Data.length c0_1] 42, .sl (Kd.int .i64) A0_0 c0_0 x0.Shape, .sl Kd.float A0_1 c0_1 x0.Data, .sl (Kd.int .i64) A1_0 c1_0 x1.Shape, .sl Kd.float A1_1 c1_1 x1.Data] w) ?_ ?_
      · refine anyG [] (by kernel_rfl) fun w768 hg769 => ?_
        have hm770 : Mem [] M w0 [.bx b35 [.slice none 0 0, .slice none 0 0] 42, .bx b28 [.slice A1_0 x1.Shape.length c1_0, .slice A1_1 x1.Data.length c1_1] 42, .bx b21 [.slice A0_0 x0.Shape.length c0_0, .slice A0_1 x0.Data.length c0_1] 42, .sl (Kd.int .i64) A0_0 c0_0 x0.Shape, .sl Kd.float A0_1 c0_1 x0.Data, .sl (Kd.int .i64) A1_0 c1_0 x1.Shape, .sl Kd.float A1_1 c1_1 x1.Data] w768 := hm41.still hg769
        refine quiet0 [0] [.agg #[.slice A0_0 x0.Shape.length c0_0, .slice A0_1 x0.Data.length c0_1]] [2, 3, 4, 14] #[true, false, false, false, false, false, false, false, false, false, false, false, false, false, false, false, false, false, false, false, false, false, false, false, false, false, false, false, false, false, false] [(2, .pointer (some ⟨b21, 0, none⟩)), (3, .pointer (some ⟨b28, 0, none⟩)), (4, .pointer (some ⟨b35, 0, none⟩)), (14, .agg #[.slice A0_0 x0.Shape.length c0_0, .slice A0_1 x0.Data.length c0_1])] [.cell ⟨b21, 0, none⟩ (.slice A0_0 x0.Shape.length c0_0), .cell ⟨b21, 1, none⟩ (.slice A0_1 x0.Data.length c0_1)] 30 rfl (by kernel_rfl) (fun _ _ _ _ _ h => nomatch h.1) hf43 (by kernel_rfl) ⟨(hm770.cell 2 rfl rfl), (hm770.cell 2 rfl rfl), trivial⟩ fun a787 hf788 => ?_
        refine all1 1 (by kernel_rfl) ?_
        refine opOf hf788 rfl (by kernel_rfl) (aCall (fid := 41) (args := [.agg #[.slice A0_0 x0.Shape.length c0_0, .slice A0_1 x0.Data.length c0_1]]) (d := 15) hf788 (by kernel_rfl) (by kernel_rfl) callable41 (ref1_TensorMay.calls _ _ x0 A0_0 x0.Shape.length c0_0 rfl A0_1 x0.Data.length c0_1 rfl (hm770.give [3, 4] [.sl (Kd.int .i64) A0_0 c0_0 x0.Shape, .sl Kd.float A0_1 c0_1 x0.Data] rfl rfl) r44 hr44) ?_)
        rintro _ w789 a790 ⟨rfl, hk792⟩ hf791
        refine ⟨.inr (Gr.still hk792.cum.none), ?_⟩
        have hm793 : Mem [] M w0 [.bx b35 [.slice none 0 0, .slice none 0 0] 42, .bx b28 [.slice A1_0 x1.Shape.length c1_0, .slice A1_1 x1.Data.length c1_1] 42, .bx b21 [.slice A0_0 x0.Shape.length c0_0, .slice A0_1 x0.Data.length c0_1] 42, .sl (Kd.int .i64) A0_0 c0_0 x0.Shape, .sl Kd.float A0_1 c0_1 x0.Data, .sl (Kd.int .i64) A1_0 c1_0 x1.Shape, .sl Kd.float A1_1 c1_1 x1.Data] w789 := hm770.still hk792.cum.none
        rw [c45] at hf791
        refine quiet0 [2, 3, 4] [.agg #[.slice A1_0 x1.Shape.length c1_0, .slice A1_1 x1.Data.length c1_1]] [2, 3, 4, 17, 18] #[true, true, true, true, true, false, false, false, false, false, false, false, false, false, false, false, false, false, false, false, false, false, false, false, false, false, false, false, false, false, false] [(2, .pointer (some ⟨b21, 0, none⟩)), (3, .pointer (some ⟨b28, 0, none⟩)), (4, .pointer (some ⟨b35, 0, none⟩)), (17, .bool false), (18, .agg #[.slice A1_0 x1.Shape.length c1_0, .slice A1_1 x1.Data.length c1_1])] [.cell ⟨b28, 0, none⟩ (.slice A1_0 x1.Shape.length c1_0), .cell ⟨b28, 1, none⟩ (.slice A1_1 x1.Data.length c1_1)] 26 rfl (by kernel_rfl) (fun _ _ _ _ _ h => nomatch h.1) hf791 (by kernel_rfl) ⟨(hm793.cell 1 rfl rfl), (hm793.cell 1 rfl rfl), trivial⟩ fun a794 hf795 => ?_
        refine all1 5 (by kernel_rfl) ?_
        refine opOf hf795 rfl (by kernel_rfl) (aCall (fid := 41) (args := [.agg #[.slice A1_0 x1.Shape.length c1_0, .slice A1_1 x1.Data.length c1_1]]) (d := 19) hf795 (by kernel_rfl) (by kernel_rfl) callable41 (ref1_TensorMay.calls _ _ x1 A1_0 x1.Shape.length c1_0 rfl A1_1 x1.Data.length c1_1 rfl (hm793.give [5, 6] [.sl (Kd.int .i64) A1_0 c1_0 x1.Shape, .sl Kd.float A1_1 c1_1 x1.Data] rfl rfl) r46 hr46) ?_)
        rintro _ w796 a797 ⟨rfl, hk799⟩ hf798
        refine ⟨.inr (Gr.still hk799.cum.none), ?_⟩
        have hm800 : Mem [] M w0 [.bx b35 [.slice none 0 0, .slice none 0 0] 42, .bx b28 [.slice A1_0 x1.Shape.length c1_0, .slice A1_1 x1.Data.length c1_1] 42, .bx b21 [.slice A0_0 x0.Shape.length c0_0, .slice A0_1 x0.Data.length c0_1] 42, .sl (Kd.int .i64) A0_0 c0_0 x0.Shape, .sl Kd.float A0_1 c0_1 x0.Data, .sl (Kd.int .i64) A1_0 c1_0 x1.Shape, .sl Kd.float A1_1 c1_1 x1.Data] w796 := hm793.still hk799.cum.none
        rw [c47] at hf798
        refine quiet0 [6, 7, 8, 9, 10, 11, 12, 13, 14, 15, 16, 17, 18, 19, 20, 21, 22, 23, 24, 25, 26, 27, 28, 29, 30] [] [2, 3, 4, 44] #[true, true, true, true, true, true, true, true, true, true, true, true, true, true, true, true, true, true, true, true, true, true, true, true, true, true, true, true, true, true, true] [(2, .pointer (some ⟨b21, 0, none⟩)), (3, .pointer (some ⟨b28, 0, none⟩)), (4, .pointer (some ⟨b35, 0, none⟩)), (44, .bool true)] [] 0 rfl (by kernel_rfl) (fun _ _ _ _ _ h => nomatch h.1) hf798 (by kernel_rfl) trivial fun a801 hf802 => ?_
        refine allDone (by kernel_rfl) ⟨rfl, hf802.sel (l := [2, 3, 4, 44]) (by kernel_rfl), hm800.sel [0, 1, 2, 3, 4, 5, 6] _ rfl (by kernel_rfl)⟩
      rintro a803 w804 ⟨hf805, hm806⟩
      refine thenN ?_
      refine condT hf805 (by kernel_rfl) ?_
      refine wp_seq ?_
      refine inReg ?_
      refine go 1 [] [4, 45] [(4, .pointer (some ⟨b35, 0, none⟩)), (45, .agg #[.slice none 0 0, .slice none 0 0])] [] hf805 (by kernel_rfl) trivial fun a807 hf808 => ?_
      refine listOf hf808 rfl (by kernel_rfl) (aStoreB (b := b35) (j := 0) (T := 42) (cs := [.slice none 0 0, .slice none 0 0]) (us := [.slice none 0 0, .slice none 0 0]) (cs' := [.slice none 0 0, .slice none 0 0]) hf808 (by kernel_rfl) (hm806.bxAt 0 rfl) (by kernel_rfl) (by kernel_rfl) (by kernel_rfl) ?_)
      intro w809 hx810 hg811
      have hm812 : Mem [] M w0 [.bx b35 [.slice none 0 0, .slice none 0 0] 42, .bx b28 [.slice A1_0 x1.Shape.length c1_0, .slice A1_1 x1.Data.length c1_1] 42, .bx b21 [.slice A0_0 x0.Shape.length c0_0, .slice A0_1 x0.Data.length c0_1] 42, .sl (Kd.int .i64) A0_0 c0_0 x0.Shape, .sl Kd.float A0_1 c0_1 x0.Data, .sl (Kd.int .i64) A1_0 c1_0 x1.Shape, .sl Kd.float A1_1 c1_1 x1.Data] w809 := hm806.setBox 0 _ rfl rfl hx810 hg811
      refine go 1 [] [4, 5] [(4, .pointer (some ⟨b35, 0, none⟩)), (5, .int .i64 2)] [] hf808 (by kernel_rfl) trivial fun a813 hf814 => ?_
      refine endL rfl ?_
      have hm815 : Mem [] M w0 [.bx b35 [.slice none 0 0, .slice none 0 0] 42] w809 := hm812.sel [0] _ rfl (by kernel_rfl)
      refine thenN ?_
      refine wp_ret ?_
      refine thenR ?_
      have hm816 : Mem [] M w0 [.ow (Kd.int .i64) 3 none 0 ([] : (List Int)), .bx b35 [.slice none 0 0, .slice none 0 0] 42] w809 := hm815.nilOw (Kd.int .i64) 3
      have hm817 : Mem [] M w0 [.ow Kd.float 47 none 0 ([] : (List Nat)), .ow (Kd.int .i64) 3 none 0 ([] : (List Int)), .bx b35 [.slice none 0 0, .slice none 0 0] 42] w809 := hm816.nilOw Kd.float 47
      have hm818 : Mem [] M w0 [.ow (Kd.int .i64) 3 none 0 ([] : (List Int)), .ow Kd.float 47 none 0 ([] : (List Nat))] w809 := hm817.sel [1, 0] _ rfl (by kernel_rfl)
      obtain rfl := Option.some.inj H0
      refine ret [.agg #[.slice none 0 0, .slice none 0 0]] [.agg #[.slice none 0 0, .slice none 0 0], .int .i64 2] [.cell ⟨b35, 0, none⟩ (.slice none 0 0), .cell ⟨b35, 1, none⟩ (.slice none 0 0)] hf814 (by kernel_rfl) ⟨(hm815.cell 0 rfl rfl), (hm815.cell 0 rfl rfl), trivial⟩ ?_
      exact ⟨_, rfl, none, 0, none, 0, rfl, hm818⟩
  · refine midReg (fun (a : Act) (w : World) => Fr 124 a [(2, .pointer (some ⟨b21, 0, none⟩)), (3, .pointer (some ⟨b28, 0, none⟩)), (4, .pointer (some ⟨b35, 0, none⟩)), (44, .bool true)] ∧ Mem [] M w0 [.bx b35 [.slice none 0 0, .slice none 0 0] 42, .bx b28 [.slice A1_0 x1.Shape.length c1_0, .slice A1_1 x1.Data.length c1_1] 42, .bx b21 [.slice A0_0 x0.Shape.length c0_0, .slice A0_1 x0.Data.length c0_1] 42, .sl (Kd.int .i64) A0_0 c0_0 x0.Shape, .sl Kd.float A0_1 c0_1 x0.Data, .sl (Kd.int .i64) A1_0 c1_0 x1.Shape, .sl Kd.float A1_1 c1_1 x1.Data] w) ?_ ?_
    · refine anyG [] (by kernel_rfl) fun w825 hg826 => ?_
      have hm827 : Mem [] M w0 [.bx b35 [.slice none 0 0, .slice none 0 0] 42, .bx b28 [.slice A1_0 x1.Shape.length c1_0, .slice A1_1 x1.Data.length c1_1] 42, .bx b21 [.slice A0_0 x0.Shape.length c0_0, .slice A0_1 x0.Data.length c0_1] 42, .sl (Kd.int .i64) A0_0 c0_0 x0.Shape, .sl Kd.float A0_1 c0_1 x0.Data, .sl (Kd.int .i64) A1_0 c1_0 x1.Shape, .sl Kd.float A1_1 c1_1 x1.Data] w825 := hm41.still hg826
      refine quiet0 [0] [.agg #[.slice A0_0 x0.Shape.length c0_0, .slice A0_1 x0.Data.length c0_1]] [2, 3, 4, 14] #[true, false, false, false, false, false, false, false, false, false, false, false, false, false, false, false, false, false, false, false, false, false, false, false, false, false, false, false, false, false, false] [(2, .pointer (some ⟨b21, 0, none⟩)), (3, .pointer (some ⟨b28, 0, none⟩)), (4, .pointer (some ⟨b35, 0, none⟩)), (14, .agg #[.slice A0_0 x0.Shape.length c0_0, .slice A0_1 x0.Data.length c0_1])] [.cell ⟨b21, 0, none⟩ (.slice A0_0 x0.Shape.length c0_0), .cell ⟨b21, 1, none⟩ (.slice A0_1 x0.Data.length c0_1)] 30 rfl (by kernel_rfl) (fun _ _ _ _ _ h => nomatch h.1) hf43 (by kernel_rfl) ⟨(hm827.cell 2 rfl rfl), (hm827.cell 2 rfl rfl), trivial⟩ fun a837 hf838 => ?_
      refine all1 1 (by kernel_rfl) ?_
      refine opOf hf838 rfl (by kernel_rfl) (aCall (fid := 41) (args := [.agg #[.slice A0_0 x0.Shape.length c0_0, .slice A0_1 x0.Data.length c0_1]]) (d := 15) hf838 (by kernel_rfl) (by kernel_rfl) callable41 (ref1_TensorMay.calls _ _ x0 A0_0 x0.Shape.length c0_0 rfl A0_1 x0.Data.length c0_1 rfl (hm827.give [3, 4] [.sl (Kd.int .i64) A0_0 c0_0 x0.Shape, .sl Kd.float A0_1 c0_1 x0.Data] rfl rfl) r44 hr44) ?_)
      rintro _ w839 a840 ⟨rfl, hk842⟩ hf841
      refine ⟨.inr (Gr.still hk842.cum.none), ?_⟩
      have hm843 : Mem [] M w0 [.bx b35 [.slice none 0 0, .slice none 0 0] 42, .bx b28 [.slice A1_0 x1.Shape.length c1_0, .slice A1_1 x1.Data.length c1_1] 42, .bx b21 [.slice A0_0 x0.Shape.length c0_0, .slice A0_1 x0.Data.length c0_1] 42, .sl (Kd.int .i64) A0_0 c0_0 x0.Shape, .sl Kd.float A0_1 c0_1 x0.Data, .sl (Kd.int .i64) A1_0 c1_0 x1.Shape, .sl Kd.float A1_1 c1_1 x1.Data] w839 := hm827.still hk842.cum.none
      rw [c45] at hf841
      refine quiet0 [2, 3, 4, 5, 6, 7, 8, 9, 10, 11, 12, 13, 14, 15, 16, 17, 18, 19, 20, 21, 22, 23, 24, 25, 26, 27, 28, 29, 30] [] [2, 3, 4, 44] #[true, true, true, true, true, true, true, true, true, true, true, true, true, true, true, true, true, true, true, true, true, true, true, true, true, true, true, true, true, true, true] [(2, .pointer (some ⟨b21, 0, none⟩)), (3, .pointer (some ⟨b28, 0, none⟩)), (4, .pointer (some ⟨b35, 0, none⟩)), (44, .bool true)] [] 0 rfl (by kernel_rfl) (fun _ _ _ _ _ h => nomatch h.1) hf841 (by kernel_rfl) trivial fun a844 hf845 => ?_
      refine allDone (by kernel_rfl) ⟨rfl, hf845.sel (l := [2, 3, 4, 44]) (by kernel_rfl), hm843.sel [0, 1, 2, 3, 4, 5, 6] _ rfl (by kernel_rfl)⟩
    rintro a846 w847 ⟨hf848, hm849⟩
    refine thenN ?_
    refine condT hf848 (by kernel_rfl) ?_
    refine wp_seq ?_
    refine inReg ?_
    refine go 1 [] [4, 45] [(4, .pointer (some ⟨b35, 0, none⟩)), (45, .agg #[.slice none 0 0, .slice none 0 0])] [] hf848 (by kernel_rfl) trivial fun a850 hf851 => ?_
    refine listOf hf851 rfl (by kernel_rfl) (aStoreB (b := b35) (j := 0) (T := 42) (cs := [.slice none 0 0, .slice none 0 0]) (us := [.slice none 0 0, .slice none 0 0]) (cs' := [.slice none 0 0, .slice none 0 0]) hf851 (by kernel_rfl) (hm849.bxAt 0 rfl) (by kernel_rfl) (by kernel_rfl) (by kernel_rfl) ?_)
    intro w852 hx853 hg854
    have hm855 : Mem [] M w0 [.bx b35 [.slice none 0 0, .slice none 0 0] 42, .bx b28 [.slice A1_0 x1.Shape.length c1_0, .slice A1_1 x1.Data.length c1_1] 42, .bx b21 [.slice A0_0 x0.Shape.length c0_0, .slice A0_1 x0.Data.length c0_1] 42, .sl (Kd.int .i64) A0_0 c0_0 x0.Shape, .sl Kd.float A0_1 c0_1 x0.Data, .sl (Kd.int .i64) A1_0 c1_0 x1.Shape, .sl Kd.float A1_1 c1_1 x1.Data] w852 := hm849.setBox 0 _ rfl rfl hx853 hg854
    refine go 1 [] [4, 5] [(4, .pointer (some ⟨b35, 0, none⟩)), (5, .int .i64 2)] [] hf851 (by kernel_rfl) trivial fun a856 hf857 => ?_
    refine endL rfl ?_
    have hm858 : Mem [] M w0 [.bx b35 [.slice none 0 0, .slice none 0 0] 42] w852 := hm855.sel [0] _ rfl (by kernel_rfl)
    refine thenN ?_
    refine wp_ret ?_
    refine thenR ?_
    have hm859 : Mem [] M w0 [.ow (Kd.int .i64) 3 none 0 ([] : (List Int)), .bx b35 [.slice none 0 0, .slice none 0 0] 42] w852 := hm858.nilOw (Kd.int .i64) 3
    have hm860 : Mem [] M w0 [.ow Kd.float 47 none 0 ([] : (List Nat)), .ow (Kd.int .i64) 3 none 0 ([] : (List Int)), .bx b35 [.slice none 0 0, .slice none 0 0] 42] w852 := hm859.nilOw Kd.float 47
    have hm861 : Mem [] M w0 [.ow (Kd.int .i64) 3 none 0 ([] : (List Int)), .ow Kd.float 47 none 0 ([] : (List Nat))] w852 := hm860.sel [1, 0] _ rfl (by kernel_rfl)
    obtain rfl := Option.some.inj H0
    refine ret [.agg #[.slice none 0 0, .slice none 0 0]] [.agg #[.slice none 0 0, .slice none 0 0], .int .i64 2] [.cell ⟨b35, 0, none⟩ (.slice none 0 0), .cell ⟨b35, 1, none⟩ (.slice none 0 0)] hf857 (by kernel_rfl) ⟨(hm858.cell 0 rfl rfl), (hm858.cell 0 rfl rfl), trivial⟩ ?_
    exact ⟨_, rfl, none, 0, none, 0, rfl, hm861⟩
end Go.Proofs.Ytkcgiolledmbnaa
