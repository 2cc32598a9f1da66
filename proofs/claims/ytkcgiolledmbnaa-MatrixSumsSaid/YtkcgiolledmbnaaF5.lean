/- Printed by gen.py. -/
import Derived.Test.YtkcgiolledmbnaaF4
namespace Go.Proofs.Ytkcgiolledmbnaa
open Go Go.RowKit
set_option linter.unusedSimpArgs false
set_option linter.unusedVariables false
set_option linter.unnecessarySimpa false
/-! ### backstitch/backstitchref1.Turn -/
noncomputable def ref1_Turn.l1 (x0 : Tensor) (s272 : (Int × (List Nat))) (s285 : (Int × (List Nat))) : Step (Int × (List Nat)) (Int × (List Nat)) :=
  if s285.1 < (rd x0.Shape 1) then (if 0 ≤ (w64 ((w64 (s272.1 * (rd x0.Shape 1))) + s285.1)) ∧ (w64 ((w64 (s272.1 * (rd x0.Shape 1))) + s285.1)) < (x0.Data.length : Int) then (if 0 ≤ (w64 ((w64 (s285.1 * (rd x0.Shape 0))) + s272.1)) ∧ (w64 ((w64 (s285.1 * (rd x0.Shape 0))) + s272.1)) < (s285.2.length : Int) then (.next ((w64 (s285.1 + 1)), (put s285.2 (w64 ((w64 (s285.1 * (rd x0.Shape 0))) + s272.1)) (rd x0.Data (w64 ((w64 (s272.1 * (rd x0.Shape 1))) + s285.1))))))
  else .bad)
  else .bad)
  else (.done (s285.1, s285.2))
noncomputable def ref1_Turn.l0 (x0 : Tensor) (s272 : (Int × (List Nat))) : Step (Int × (List Nat)) (Int × (List Nat)) :=
  if s272.1 < (rd x0.Shape 0) then (bindS (loop (ref1_Turn.l1 x0 s272) (0, s272.2)) fun r286 =>
  .next ((w64 (s272.1 + 1)), r286.2))
  else (.done (s272.1, s272.2))
noncomputable def ref1_Turn.f (x0 : Tensor) : Option (Tensor × Int) :=
  (ref1_TensorMay.f x0).bind fun r37 =>
  if r37 = true then (if (x0.Shape.length : Int) = 2 then (if (0 : Int) ≤ 1 ∧ 1 < (x0.Shape.length : Int) then (if (0 : Int) ≤ 0 ∧ 0 < (x0.Shape.length : Int) then ((ref1_New.f ([(rd x0.Shape 1), (rd x0.Shape 0)] : List Int) 0).bind fun r51 =>
  (loop (ref1_Turn.l0 x0) (0, r51.1.Data)).bind fun r273 =>
  some ((⟨r51.1.Shape, r273.2⟩ : Tensor), 0))
  else none)
  else none)
  else (some ((⟨([] : (List Int)), ([] : (List Nat))⟩ : Tensor), 2)))
  else (some ((⟨([] : (List Int)), ([] : (List Nat))⟩ : Tensor), 2))
set_option maxRecDepth 100000 in
set_option maxHeartbeats 4000000 in
theorem ref1_Turn.calls (M : List (Option Nat)) (w0 : World) (x0 : Tensor) (A0_0 : Option Addr) (n0_0 c0_0 : Nat) (e0_0 : n0_0 = x0.Shape.length) (A0_1 : Option Addr) (n0_1 c0_1 : Nat) (e0_1 : n0_1 = x0.Data.length) (hm0 : Mem [] M w0 [.sl (Kd.int .i64) A0_0 c0_0 x0.Shape, .sl Kd.float A0_1 c0_1 x0.Data] w0) (r : (Tensor × Int)) (H0 : ref1_Turn.f x0 = some r) :
    Calls Try.prog 45 [.agg #[.slice A0_0 n0_0 c0_0, .slice A0_1 n0_1 c0_1]].toArray w0 (fun x w' => ∃ v, x = .returned v ∧ ∃ Ar0_0 cr0_0 Ar0_1 cr0_1, v = .tuple #[.agg #[.slice Ar0_0 r.1.Shape.length cr0_0, .slice Ar0_1 r.1.Data.length cr0_1], .int .i64 r.2] ∧ Mem [] M w0 [.ow (Kd.int .i64) 3 Ar0_0 cr0_0 r.1.Shape, .ow Kd.float 47 Ar0_1 cr0_1 r.1.Data] w') := by
  subst e0_0
  subst e0_1
  unfold ref1_Turn.f at H0
  refine enter (n := 71) Try.func45 rfl rfl (by kernel_rfl) fun a0 (hf0 : Fr 71 a0 [(0, .agg #[.slice A0_0 x0.Shape.length c0_0, .slice A0_1 x0.Data.length c0_1])]) => ?_
  refine wp_seq ?_
  refine inReg ?_
  refine listOf hf0 rfl (by kernel_rfl) (aNew (cs := [.slice A0_0 x0.Shape.length c0_0, .slice A0_1 x0.Data.length c0_1]) (T := 42) (d := 1) hf0 (by kernel_rfl) (by kernel_rfl) ?_)
  intro b21 w22 a23 hbb21 hx25 hg26 hf24
  have hm27 : Mem [] M w0 [.bx b21 [.slice A0_0 x0.Shape.length c0_0, .slice A0_1 x0.Data.length c0_1] 42, .sl (Kd.int .i64) A0_0 c0_0 x0.Shape, .sl Kd.float A0_1 c0_1 x0.Data] w22 := hm0.box hbb21 hx25 hg26
  refine listOf hf24 rfl (by kernel_rfl) (aNew (cs := [.slice none 0 0, .slice none 0 0]) (T := 42) (d := 2) hf24 (by kernel_rfl) (by kernel_rfl) ?_)
  intro b28 w29 a30 hbb28 hx32 hg33 hf31
  have hm34 : Mem [] M w0 [.bx b28 [.slice none 0 0, .slice none 0 0] 42, .bx b21 [.slice A0_0 x0.Shape.length c0_0, .slice A0_1 x0.Data.length c0_1] 42, .sl (Kd.int .i64) A0_0 c0_0 x0.Shape, .sl Kd.float A0_1 c0_1 x0.Data] w29 := hm27.box hbb28 hx32 hg33
  refine go 1 [] [1, 2] [(1, .pointer (some ⟨b21, 0, none⟩)), (2, .pointer (some ⟨b28, 0, none⟩))] [] hf31 (by kernel_rfl) trivial fun a35 hf36 => ?_
  refine endL rfl ?_
  refine thenN ?_
  refine wp_seq ?_
  refine wp_seq ?_
  obtain ⟨r37, hr37, H0⟩ := ob_split H0
  rcases ifb_split H0 with ⟨c38, H0⟩ | ⟨c38, H0⟩
  · rcases if_split H0 with ⟨c39, H0⟩ | ⟨c39, H0⟩
    · refine inReg ?_
      refine go 1 [.agg #[.slice A0_0 x0.Shape.length c0_0, .slice A0_1 x0.Data.length c0_1]] [1, 2, 8] [(1, .pointer (some ⟨b21, 0, none⟩)), (2, .pointer (some ⟨b28, 0, none⟩)), (8, .agg #[.slice A0_0 x0.Shape.length c0_0, .slice A0_1 x0.Data.length c0_1])] [.cell ⟨b21, 0, none⟩ (.slice A0_0 x0.Shape.length c0_0), .cell ⟨b21, 1, none⟩ (.slice A0_1 x0.Data.length c0_1)] hf36 (by kernel_rfl) ⟨(hm34.cell 1 rfl rfl), (hm34.cell 1 rfl rfl), trivial⟩ fun a40 hf41 => ?_
      refine listOf hf41 rfl (by kernel_rfl) (aCall (fid := 41) (args := [.agg #[.slice A0_0 x0.Shape.length c0_0, .slice A0_1 x0.Data.length c0_1]]) (d := 9) hf41 (by kernel_rfl) (by kernel_rfl) callable41 (ref1_TensorMay.calls _ _ x0 A0_0 x0.Shape.length c0_0 rfl A0_1 x0.Data.length c0_1 rfl (hm34.give [2, 3] [.sl (Kd.int .i64) A0_0 c0_0 x0.Shape, .sl Kd.float A0_1 c0_1 x0.Data] rfl rfl) r37 hr37) ?_)
      rintro _ w42 a43 ⟨rfl, hk45⟩ hf44
      have hm46 : Mem [] M w0 [.bx b28 [.slice none 0 0, .slice none 0 0] 42, .bx b21 [.slice A0_0 x0.Shape.length c0_0, .slice A0_1 x0.Data.length c0_1] 42, .sl (Kd.int .i64) A0_0 c0_0 x0.Shape, .sl Kd.float A0_1 c0_1 x0.Data] w42 := hm34.still hk45.cum.none
      rw [c38] at hf44
      refine go 7 [.slice A0_0 x0.Shape.length c0_0, .bool false] [1, 2, 16] [(1, .pointer (some ⟨b21, 0, none⟩)), (2, .pointer (some ⟨b28, 0, none⟩)), (16, .bool false)] [.cell ⟨b21, 0, none⟩ (.slice A0_0 x0.Shape.length c0_0), .is ((((x0.Shape.length : Int) : Int) != 2) = false)] hf44 (by kernel_rfl) ⟨(hm46.cell 1 rfl rfl), (neF c39), trivial⟩ fun a47 hf48 => ?_
      refine endL rfl ?_
      refine thenN ?_
      refine condF hf48 (by kernel_rfl) ?_
      refine wp_skip ?_
      refine thenN ?_
      refine wp_seq ?_
      obtain ⟨g49, H0⟩ := if_guard H0
      obtain ⟨g50, H0⟩ := if_guard H0
      obtain ⟨r51, hr51, H0⟩ := ob_split H0
      refine midReg (fun (a : Act) (w : World) => ∃ (b71 : Nat) (A61 : Option Addr) (c62 : Nat) (A63 : Option Addr) (c65 : Nat), Fr 71 a [(1, .pointer (some ⟨b21, 0, none⟩)), (2, .pointer (some ⟨b28, 0, none⟩)), (4, .pointer (some ⟨b71, 0, none⟩))] ∧ Mem [] M w0 [.bx b71 [.slice A61 r51.1.Shape.length c62, .slice A63 r51.1.Data.length c65] 42, .ow (Kd.int .i64) 3 A61 c62 r51.1.Shape, .ow Kd.float 47 A63 c65 r51.1.Data, .bx b28 [.slice none 0 0, .slice none 0 0] 42, .bx b21 [.slice A0_0 x0.Shape.length c0_0, .slice A0_1 x0.Data.length c0_1] 42, .sl (Kd.int .i64) A0_0 c0_0 x0.Shape, .sl Kd.float A0_1 c0_1 x0.Data] w) ?_ ?_
      · refine anyG [14] (by kernel_rfl) fun w83 hg84 => ?_
        have hm85 : Mem [] M w0 [.bx b28 [.slice none 0 0, .slice none 0 0] 42, .bx b21 [.slice A0_0 x0.Shape.length c0_0, .slice A0_1 x0.Data.length c0_1] 42, .sl (Kd.int .i64) A0_0 c0_0 x0.Shape, .sl Kd.float A0_1 c0_1 x0.Data] w83 := hm46.still hg84
        have q176 := (hm85.slAt 2 rfl).int 1 g49.1 g49.2
        have q177 := (hm85.slAt 2 rfl).int 0 g50.1 g50.2
        refine quiet0 [0, 1, 2, 3, 4, 5, 6, 7] [.slice A0_0 x0.Shape.length c0_0, .int .i64 (rd x0.Shape 1), .slice A0_0 x0.Shape.length c0_0, .int .i64 (rd x0.Shape 0)] [1, 2, 22, 26] #[true, true, true, true, true, true, true, true, false, false, false, false, false, false, false, false] [(1, .pointer (some ⟨b21, 0, none⟩)), (2, .pointer (some ⟨b28, 0, none⟩)), (22, .int .i64 (rd x0.Shape 1)), (26, .int .i64 (rd x0.Shape 0))] [.cell ⟨b21, 0, none⟩ (.slice A0_0 x0.Shape.length c0_0), .is (Option.isSome A0_0 = true), .is ((0 : Int) ≤ 1 ∧ 1 < (x0.Shape.length : Int)), .cell ((ad A0_0).add ((1 : Int).toNat * 1)) (.int .i64 (rd x0.Shape 1)), .cell ⟨b21, 0, none⟩ (.slice A0_0 x0.Shape.length c0_0), .is (Option.isSome A0_0 = true), .is ((0 : Int) ≤ 0 ∧ 0 < (x0.Shape.length : Int)), .cell ((ad A0_0).add ((0 : Int).toNat * 1)) (.int .i64 (rd x0.Shape 0))] 8 rfl (by kernel_rfl) (fun _ _ _ _ _ h => nomatch h.1) hf48 (by kernel_rfl) ⟨(hm85.cell 1 rfl rfl), q176.1, g49, q176.2, (hm85.cell 1 rfl rfl), q177.1, g50, q177.2, trivial⟩ fun a178 hf179 => ?_
        refine all2 8 13 (by kernel_rfl) ?_ ?_
        · refine opOf hf179 rfl (by kernel_rfl) (aLit (cs := [.int .i64 (rd x0.Shape 1), .int .i64 (rd x0.Shape 0)]) (E := 3) (len := 2) (d := 27) hf179 (by kernel_rfl) (by kernel_rfl) ?_)
          intro b180 w181 a182 hbb180 hx184 hg185 hf183
          refine ⟨.inr (Gr.still hg185), ?_⟩
          have hm85s := hm85.still hg185
          have hm186 : Mem [] M w0 [.sl (Kd.int .i64) (some ⟨b180, 0, none⟩) 2 ([(rd x0.Shape 1), (rd x0.Shape 0)] : List Int), .bx b28 [.slice none 0 0, .slice none 0 0] 42, .bx b21 [.slice A0_0 x0.Shape.length c0_0, .slice A0_1 x0.Data.length c0_1] 42, .sl (Kd.int .i64) A0_0 c0_0 x0.Shape, .sl Kd.float A0_1 c0_1 x0.Data] w181 := Mem.lit (kd := (Kd.int .i64)) (xs := ([(rd x0.Shape 1), (rd x0.Shape 0)] : List Int)) hm85 hbb180 hx184 hg185 (Els.append (Els.one (kd := (Kd.int .i64)) (us := [.int .i64 (rd x0.Shape 1)]) (x := (rd x0.Shape 1)) rfl) (Els.one (kd := (Kd.int .i64)) (us := [.int .i64 (rd x0.Shape 0)]) (x := (rd x0.Shape 0)) rfl))
          refine all2 9 13 (by kernel_rfl) ?_ ?_
          · refine opOf hf183 rfl (by kernel_rfl) (aCall (fid := 42) (args := [.slice (some ⟨b180, 0, none⟩) 2 2, .float .f64 0]) (d := 28) hf183 (by kernel_rfl) (by kernel_rfl) callable42 (ref1_New.calls _ _ ([(rd x0.Shape 1), (rd x0.Shape 0)] : List Int) (some ⟨b180, 0, none⟩) 2 2 rfl 0 0 ((FR.lit (by kernel_rfl) (by kernel_rfl))) (hm186.give [0] [.sl (Kd.int .i64) (some ⟨b180, 0, none⟩) 2 ([(rd x0.Shape 1), (rd x0.Shape 0)] : List Int)] rfl rfl) r51 hr51) ?_)
            rintro _ w191 a192 ⟨A187, c188, A189, c190, rfl, hk194⟩ hf193
            refine ⟨.inr (Gr.still hk194.cum.none), ?_⟩
            have hm195 : Mem [] M w0 [.ow (Kd.int .i64) 3 A187 c188 r51.1.Shape, .ow Kd.float 47 A189 c190 r51.1.Data, .sl (Kd.int .i64) (some ⟨b180, 0, none⟩) 2 ([(rd x0.Shape 1), (rd x0.Shape 0)] : List Int), .bx b28 [.slice none 0 0, .slice none 0 0] 42, .bx b21 [.slice A0_0 x0.Shape.length c0_0, .slice A0_1 x0.Data.length c0_1] 42, .sl (Kd.int .i64) A0_0 c0_0 x0.Shape, .sl Kd.float A0_1 c0_1 x0.Data] w191 := hm186.back hk194
            refine quiet0 [10, 11, 12] [] [1, 2, 29, 30] #[true, true, true, true, true, true, true, true, true, true, true, true, true, false, false, false] [(1, .pointer (some ⟨b21, 0, none⟩)), (2, .pointer (some ⟨b28, 0, none⟩)), (29, .agg #[.slice A187 r51.1.Shape.length c188, .slice A189 r51.1.Data.length c190]), (30, .int .i64 r51.2)] [] 3 rfl (by kernel_rfl) (fun _ _ _ _ _ h => nomatch h.1) hf193 (by kernel_rfl) trivial fun a196 hf197 => ?_
            refine all1 13 (by kernel_rfl) ?_
            refine opOf hf197 rfl (by kernel_rfl) (aNew (cs := [.slice none 0 0, .slice none 0 0]) (T := 42) (d := 4) hf197 (by kernel_rfl) (by kernel_rfl) ?_)
            intro b198 w199 a200 hbb198 hx202 hg203 hf201
            refine ⟨.inr (Gr.still hg203), ?_⟩
            have hm204 : Mem [] M w0 [.bx b198 [.slice none 0 0, .slice none 0 0] 42, .ow (Kd.int .i64) 3 A187 c188 r51.1.Shape, .ow Kd.float 47 A189 c190 r51.1.Data, .sl (Kd.int .i64) (some ⟨b180, 0, none⟩) 2 ([(rd x0.Shape 1), (rd x0.Shape 0)] : List Int), .bx b28 [.slice none 0 0, .slice none 0 0] 42, .bx b21 [.slice A0_0 x0.Shape.length c0_0, .slice A0_1 x0.Data.length c0_1] 42, .sl (Kd.int .i64) A0_0 c0_0 x0.Shape, .sl Kd.float A0_1 c0_1 x0.Data] w199 := hm195.box hbb198 hx202 hg203
            refine all1 14 (by kernel_rfl) ?_
            refine opOf hf201 rfl (by kernel_rfl) (aStoreB (b := b198) (j := 0) (T := 42) (cs := [.slice none 0 0, .slice none 0 0]) (us := [.slice A187 r51.1.Shape.length c188, .slice A189 r51.1.Data.length c190]) (cs' := [.slice A187 r51.1.Shape.length c188, .slice A189 r51.1.Data.length c190]) hf201 (by kernel_rfl) (hm204.bxAt 0 rfl) (by kernel_rfl) (by kernel_rfl) (by kernel_rfl) ?_)
            intro w205 hx206 hg207
            refine ⟨.inl (by decide), ?_⟩
            have hm208 : Mem [] M w0 [.bx b198 [.slice A187 r51.1.Shape.length c188, .slice A189 r51.1.Data.length c190] 42, .ow (Kd.int .i64) 3 A187 c188 r51.1.Shape, .ow Kd.float 47 A189 c190 r51.1.Data, .sl (Kd.int .i64) (some ⟨b180, 0, none⟩) 2 ([(rd x0.Shape 1), (rd x0.Shape 0)] : List Int), .bx b28 [.slice none 0 0, .slice none 0 0] 42, .bx b21 [.slice A0_0 x0.Shape.length c0_0, .slice A0_1 x0.Data.length c0_1] 42, .sl (Kd.int .i64) A0_0 c0_0 x0.Shape, .sl Kd.float A0_1 c0_1 x0.Data] w205 := hm204.setBox 0 _ rfl rfl hx206 hg207
            refine quiet0 [15] [] [1, 2, 4] #[true, true, true, true, true, true, true, true, true, true, true, true, true, true, true, true] [(1, .pointer (some ⟨b21, 0, none⟩)), (2, .pointer (some ⟨b28, 0, none⟩)), (4, .pointer (some ⟨b198, 0, none⟩))] [] 0 rfl (by kernel_rfl) (fun _ _ _ _ _ h => nomatch h.1) hf201 (by kernel_rfl) trivial fun a209 hf210 => ?_
            refine allDone (by kernel_rfl) ⟨rfl, b198, A187, c188, A189, c190, hf210.sel (l := [1, 2, 4]) (by kernel_rfl), hm208.sel [0, 1, 2, 4, 5, 6, 7] _ rfl (by kernel_rfl)⟩
          · refine opOf hf183 rfl (by kernel_rfl) (aNew (cs := [.slice none 0 0, .slice none 0 0]) (T := 42) (d := 4) hf183 (by kernel_rfl) (by kernel_rfl) ?_)
            intro b211 w212 a213 hbb211 hx215 hg216 hf214
            refine ⟨.inr (Gr.still hg216), ?_⟩
            have hm217 : Mem [] M w0 [.bx b211 [.slice none 0 0, .slice none 0 0] 42, .sl (Kd.int .i64) (some ⟨b180, 0, none⟩) 2 ([(rd x0.Shape 1), (rd x0.Shape 0)] : List Int), .bx b28 [.slice none 0 0, .slice none 0 0] 42, .bx b21 [.slice A0_0 x0.Shape.length c0_0, .slice A0_1 x0.Data.length c0_1] 42, .sl (Kd.int .i64) A0_0 c0_0 x0.Shape, .sl Kd.float A0_1 c0_1 x0.Data] w212 := hm186.box hbb211 hx215 hg216
            refine all1 9 (by kernel_rfl) ?_
            refine opOf hf214 rfl (by kernel_rfl) (aCall (fid := 42) (args := [.slice (some ⟨b180, 0, none⟩) 2 2, .float .f64 0]) (d := 28) hf214 (by kernel_rfl) (by kernel_rfl) callable42 (ref1_New.calls _ _ ([(rd x0.Shape 1), (rd x0.Shape 0)] : List Int) (some ⟨b180, 0, none⟩) 2 2 rfl 0 0 ((FR.lit (by kernel_rfl) (by kernel_rfl))) (hm217.give [1] [.sl (Kd.int .i64) (some ⟨b180, 0, none⟩) 2 ([(rd x0.Shape 1), (rd x0.Shape 0)] : List Int)] rfl rfl) r51 hr51) ?_)
            rintro _ w222 a223 ⟨A218, c219, A220, c221, rfl, hk225⟩ hf224
            refine ⟨.inr (Gr.still hk225.cum.none), ?_⟩
            have hm226 : Mem [] M w0 [.ow (Kd.int .i64) 3 A218 c219 r51.1.Shape, .ow Kd.float 47 A220 c221 r51.1.Data, .bx b211 [.slice none 0 0, .slice none 0 0] 42, .sl (Kd.int .i64) (some ⟨b180, 0, none⟩) 2 ([(rd x0.Shape 1), (rd x0.Shape 0)] : List Int), .bx b28 [.slice none 0 0, .slice none 0 0] 42, .bx b21 [.slice A0_0 x0.Shape.length c0_0, .slice A0_1 x0.Data.length c0_1] 42, .sl (Kd.int .i64) A0_0 c0_0 x0.Shape, .sl Kd.float A0_1 c0_1 x0.Data] w222 := hm217.back hk225
            refine quiet0 [10, 11, 12] [] [1, 2, 4, 29, 30] #[true, true, true, true, true, true, true, true, true, true, true, true, true, true, false, false] [(1, .pointer (some ⟨b21, 0, none⟩)), (2, .pointer (some ⟨b28, 0, none⟩)), (4, .pointer (some ⟨b211, 0, none⟩)), (29, .agg #[.slice A218 r51.1.Shape.length c219, .slice A220 r51.1.Data.length c221]), (30, .int .i64 r51.2)] [] 2 rfl (by kernel_rfl) (fun _ _ _ _ _ h => nomatch h.1) hf224 (by kernel_rfl) trivial fun a227 hf228 => ?_
            refine all1 14 (by kernel_rfl) ?_
            refine opOf hf228 rfl (by kernel_rfl) (aStoreB (b := b211) (j := 0) (T := 42) (cs := [.slice none 0 0, .slice none 0 0]) (us := [.slice A218 r51.1.Shape.length c219, .slice A220 r51.1.Data.length c221]) (cs' := [.slice A218 r51.1.Shape.length c219, .slice A220 r51.1.Data.length c221]) hf228 (by kernel_rfl) (hm226.bxAt 2 rfl) (by kernel_rfl) (by kernel_rfl) (by kernel_rfl) ?_)
            intro w229 hx230 hg231
            refine ⟨.inl (by decide), ?_⟩
            have hm232 : Mem [] M w0 [.ow (Kd.int .i64) 3 A218 c219 r51.1.Shape, .ow Kd.float 47 A220 c221 r51.1.Data, .bx b211 [.slice A218 r51.1.Shape.length c219, .slice A220 r51.1.Data.length c221] 42, .sl (Kd.int .i64) (some ⟨b180, 0, none⟩) 2 ([(rd x0.Shape 1), (rd x0.Shape 0)] : List Int), .bx b28 [.slice none 0 0, .slice none 0 0] 42, .bx b21 [.slice A0_0 x0.Shape.length c0_0, .slice A0_1 x0.Data.length c0_1] 42, .sl (Kd.int .i64) A0_0 c0_0 x0.Shape, .sl Kd.float A0_1 c0_1 x0.Data] w229 := hm226.setBox 2 _ rfl rfl hx230 hg231
            refine quiet0 [15] [] [1, 2, 4] #[true, true, true, true, true, true, true, true, true, true, true, true, true, true, true, true] [(1, .pointer (some ⟨b21, 0, none⟩)), (2, .pointer (some ⟨b28, 0, none⟩)), (4, .pointer (some ⟨b211, 0, none⟩))] [] 0 rfl (by kernel_rfl) (fun _ _ _ _ _ h => nomatch h.1) hf228 (by kernel_rfl) trivial fun a233 hf234 => ?_
            refine allDone (by kernel_rfl) ⟨rfl, b211, A218, c219, A220, c221, hf234.sel (l := [1, 2, 4]) (by kernel_rfl), hm232.sel [2, 0, 1, 4, 5, 6, 7] _ rfl (by kernel_rfl)⟩
        · refine opOf hf179 rfl (by kernel_rfl) (aNew (cs := [.slice none 0 0, .slice none 0 0]) (T := 42) (d := 4) hf179 (by kernel_rfl) (by kernel_rfl) ?_)
          intro b235 w236 a237 hbb235 hx239 hg240 hf238
          refine ⟨.inr (Gr.still hg240), ?_⟩
          have hm241 : Mem [] M w0 [.bx b235 [.slice none 0 0, .slice none 0 0] 42, .bx b28 [.slice none 0 0, .slice none 0 0] 42, .bx b21 [.slice A0_0 x0.Shape.length c0_0, .slice A0_1 x0.Data.length c0_1] 42, .sl (Kd.int .i64) A0_0 c0_0 x0.Shape, .sl Kd.float A0_1 c0_1 x0.Data] w236 := hm85.box hbb235 hx239 hg240
          refine all1 8 (by kernel_rfl) ?_
          refine opOf hf238 rfl (by kernel_rfl) (aLit (cs := [.int .i64 (rd x0.Shape 1), .int .i64 (rd x0.Shape 0)]) (E := 3) (len := 2) (d := 27) hf238 (by kernel_rfl) (by kernel_rfl) ?_)
          intro b242 w243 a244 hbb242 hx246 hg247 hf245
          refine ⟨.inr (Gr.still hg247), ?_⟩
          have hm241s := hm241.still hg247
          have hm248 : Mem [] M w0 [.sl (Kd.int .i64) (some ⟨b242, 0, none⟩) 2 ([(rd x0.Shape 1), (rd x0.Shape 0)] : List Int), .bx b235 [.slice none 0 0, .slice none 0 0] 42, .bx b28 [.slice none 0 0, .slice none 0 0] 42, .bx b21 [.slice A0_0 x0.Shape.length c0_0, .slice A0_1 x0.Data.length c0_1] 42, .sl (Kd.int .i64) A0_0 c0_0 x0.Shape, .sl Kd.float A0_1 c0_1 x0.Data] w243 := Mem.lit (kd := (Kd.int .i64)) (xs := ([(rd x0.Shape 1), (rd x0.Shape 0)] : List Int)) hm241 hbb242 hx246 hg247 (Els.append (Els.one (kd := (Kd.int .i64)) (us := [.int .i64 (rd x0.Shape 1)]) (x := (rd x0.Shape 1)) rfl) (Els.one (kd := (Kd.int .i64)) (us := [.int .i64 (rd x0.Shape 0)]) (x := (rd x0.Shape 0)) rfl))
          refine all1 9 (by kernel_rfl) ?_
          refine opOf hf245 rfl (by kernel_rfl) (aCall (fid := 42) (args := [.slice (some ⟨b242, 0, none⟩) 2 2, .float .f64 0]) (d := 28) hf245 (by kernel_rfl) (by kernel_rfl) callable42 (ref1_New.calls _ _ ([(rd x0.Shape 1), (rd x0.Shape 0)] : List Int) (some ⟨b242, 0, none⟩) 2 2 rfl 0 0 ((FR.lit (by kernel_rfl) (by kernel_rfl))) (hm248.give [0] [.sl (Kd.int .i64) (some ⟨b242, 0, none⟩) 2 ([(rd x0.Shape 1), (rd x0.Shape 0)] : List Int)] rfl rfl) r51 hr51) ?_)
          rintro _ w253 a254 ⟨A249, c250, A251, c252, rfl, hk256⟩ hf255
          refine ⟨.inr (Gr.still hk256.cum.none), ?_⟩
          have hm257 : Mem [] M w0 [.ow (Kd.int .i64) 3 A249 c250 r51.1.Shape, .ow Kd.float 47 A251 c252 r51.1.Data, .sl (Kd.int .i64) (some ⟨b242, 0, none⟩) 2 ([(rd x0.Shape 1), (rd x0.Shape 0)] : List Int), .bx b235 [.slice none 0 0, .slice none 0 0] 42, .bx b28 [.slice none 0 0, .slice none 0 0] 42, .bx b21 [.slice A0_0 x0.Shape.length c0_0, .slice A0_1 x0.Data.length c0_1] 42, .sl (Kd.int .i64) A0_0 c0_0 x0.Shape, .sl Kd.float A0_1 c0_1 x0.Data] w253 := hm248.back hk256
          refine quiet0 [10, 11, 12] [] [1, 2, 4, 29, 30] #[true, true, true, true, true, true, true, true, true, true, true, true, true, true, false, false] [(1, .pointer (some ⟨b21, 0, none⟩)), (2, .pointer (some ⟨b28, 0, none⟩)), (4, .pointer (some ⟨b235, 0, none⟩)), (29, .agg #[.slice A249 r51.1.Shape.length c250, .slice A251 r51.1.Data.length c252]), (30, .int .i64 r51.2)] [] 2 rfl (by kernel_rfl) (fun _ _ _ _ _ h => nomatch h.1) hf255 (by kernel_rfl) trivial fun a258 hf259 => ?_
          refine all1 14 (by kernel_rfl) ?_
          refine opOf hf259 rfl (by kernel_rfl) (aStoreB (b := b235) (j := 0) (T := 42) (cs := [.slice none 0 0, .slice none 0 0]) (us := [.slice A249 r51.1.Shape.length c250, .slice A251 r51.1.Data.length c252]) (cs' := [.slice A249 r51.1.Shape.length c250, .slice A251 r51.1.Data.length c252]) hf259 (by kernel_rfl) (hm257.bxAt 3 rfl) (by kernel_rfl) (by kernel_rfl) (by kernel_rfl) ?_)
          intro w260 hx261 hg262
          refine ⟨.inl (by decide), ?_⟩
          have hm263 : Mem [] M w0 [.ow (Kd.int .i64) 3 A249 c250 r51.1.Shape, .ow Kd.float 47 A251 c252 r51.1.Data, .sl (Kd.int .i64) (some ⟨b242, 0, none⟩) 2 ([(rd x0.Shape 1), (rd x0.Shape 0)] : List Int), .bx b235 [.slice A249 r51.1.Shape.length c250, .slice A251 r51.1.Data.length c252] 42, .bx b28 [.slice none 0 0, .slice none 0 0] 42, .bx b21 [.slice A0_0 x0.Shape.length c0_0, .slice A0_1 x0.Data.length c0_1] 42, .sl (Kd.int .i64) A0_0 c0_0 x0.Shape, .sl Kd.float A0_1 c0_1 x0.Data] w260 := hm257.setBox 3 _ rfl rfl hx261 hg262
          refine quiet0 [15] [] [1, 2, 4] #[true, true, true, true, true, true, true, true, true, true, true, true, true, true, true, true] [(1, .pointer (some ⟨b21, 0, none⟩)), (2, .pointer (some ⟨b28, 0, none⟩)), (4, .pointer (some ⟨b235, 0, none⟩))] [] 0 rfl (by kernel_rfl) (fun _ _ _ _ _ h => nomatch h.1) hf259 (by kernel_rfl) trivial fun a264 hf265 => ?_
          refine allDone (by kernel_rfl) ⟨rfl, b235, A249, c250, A251, c252, hf265.sel (l := [1, 2, 4]) (by kernel_rfl), hm263.sel [3, 0, 1, 4, 5, 6, 7] _ rfl (by kernel_rfl)⟩
      rintro a266 w267 ⟨b71, A61, c62, A63, c65, hf268, hm269⟩
      refine thenN ?_
      refine wp_seq ?_
      refine wp_seq ?_
      refine reg [] [1, 2, 4, 6] [(1, .pointer (some ⟨b21, 0, none⟩)), (2, .pointer (some ⟨b28, 0, none⟩)), (4, .pointer (some ⟨b71, 0, none⟩)), (6, .int .i64 0)] [] hf268 (by kernel_rfl) trivial fun a270 hf271 => ?_
      refine thenN ?_
      obtain ⟨r273, hr273, H0⟩ := ob_split H0
      refine wpBlock (Mid := fun (a : Act) (w : World) => Fr 71 a [(1, .pointer (some ⟨b21, 0, none⟩)), (2, .pointer (some ⟨b28, 0, none⟩)), (4, .pointer (some ⟨b71, 0, none⟩)), (6, .int .i64 r273.1)] ∧ Mem [] M w0 [.bx b71 [.slice A61 r51.1.Shape.length c62, .slice A63 r273.2.length c65] 42, .ow (Kd.int .i64) 3 A61 c62 r51.1.Shape, .ow Kd.float 47 A63 c65 r273.2, .bx b28 [.slice none 0 0, .slice none 0 0] 42, .bx b21 [.slice A0_0 x0.Shape.length c0_0, .slice A0_1 x0.Data.length c0_1] 42, .sl (Kd.int .i64) A0_0 c0_0 x0.Shape, .sl Kd.float A0_1 c0_1 x0.Data] w) ?_ ?_
      · refine wpLoop (ref1_Turn.l0 x0) r273 (fun (s272 : (Int × (List Nat))) (a : Act) (w : World) => Fr 71 a [(1, .pointer (some ⟨b21, 0, none⟩)), (2, .pointer (some ⟨b28, 0, none⟩)), (4, .pointer (some ⟨b71, 0, none⟩)), (6, .int .i64 s272.1)] ∧ Mem [] M w0 [.bx b71 [.slice A61 r51.1.Shape.length c62, .slice A63 s272.2.length c65] 42, .ow (Kd.int .i64) 3 A61 c62 r51.1.Shape, .ow Kd.float 47 A63 c65 s272.2, .bx b28 [.slice none 0 0, .slice none 0 0] 42, .bx b21 [.slice A0_0 x0.Shape.length c0_0, .slice A0_1 x0.Data.length c0_1] 42, .sl (Kd.int .i64) A0_0 c0_0 x0.Shape, .sl Kd.float A0_1 c0_1 x0.Data] w) (0, r51.1.Data) hr273 ⟨hf271.sel (l := [1, 2, 4, 6]) (by kernel_rfl), hm269.sel [0, 1, 2, 3, 4, 5, 6] _ rfl (by kernel_rfl)⟩ ?_
        rintro g274 s272 a275 w276 H1 ⟨hf277, hm278⟩
        unfold ref1_Turn.l0 at H1
        refine wp_seq ?_
        refine wp_seq ?_
        rcases ifS_split H1 with ⟨c279, H1⟩ | ⟨c279, H1⟩
        · have q280 := (hm278.slAt 5 rfl).int 0 g50.1 g50.2
          refine reg [.slice A0_0 x0.Shape.length c0_0, .int .i64 (rd x0.Shape 0), .bool true] [1, 2, 4, 6, 36] [(1, .pointer (some ⟨b21, 0, none⟩)), (2, .pointer (some ⟨b28, 0, none⟩)), (4, .pointer (some ⟨b71, 0, none⟩)), (6, .int .i64 s272.1), (36, .bool true)] [.cell ⟨b21, 0, none⟩ (.slice A0_0 x0.Shape.length c0_0), .is (Option.isSome A0_0 = true), .is ((0 : Int) ≤ 0 ∧ 0 < (x0.Shape.length : Int)), .cell ((ad A0_0).add ((0 : Int).toNat * 1)) (.int .i64 (rd x0.Shape 0)), .is (decide (s272.1 < (rd x0.Shape 0)) = true)] hf277 (by kernel_rfl) ⟨(hm278.cell 4 rfl rfl), q280.1, g50, q280.2, (decide_eq_true c279), trivial⟩ fun a281 hf282 => ?_
          refine thenN ?_
          refine condT hf282 (by kernel_rfl) ?_
          refine wp_skip ?_
          refine thenN ?_
          refine wp_seq ?_
          refine wp_block ?_
          refine wp_seq ?_
          refine reg [] [1, 2, 4, 6, 7] [(1, .pointer (some ⟨b21, 0, none⟩)), (2, .pointer (some ⟨b28, 0, none⟩)), (4, .pointer (some ⟨b71, 0, none⟩)), (6, .int .i64 s272.1), (7, .int .i64 0)] [] hf282 (by kernel_rfl) trivial fun a283 hf284 => ?_
          refine thenN ?_
          obtain ⟨r286, hr286, H1⟩ := obS_split H1
          refine wpBlock (Mid := fun (a : Act) (w : World) => Fr 71 a [(1, .pointer (some ⟨b21, 0, none⟩)), (2, .pointer (some ⟨b28, 0, none⟩)), (4, .pointer (some ⟨b71, 0, none⟩)), (6, .int .i64 s272.1), (7, .int .i64 r286.1)] ∧ Mem [] M w0 [.bx b71 [.slice A61 r51.1.Shape.length c62, .slice A63 r286.2.length c65] 42, .ow (Kd.int .i64) 3 A61 c62 r51.1.Shape, .ow Kd.float 47 A63 c65 r286.2, .bx b28 [.slice none 0 0, .slice none 0 0] 42, .bx b21 [.slice A0_0 x0.Shape.length c0_0, .slice A0_1 x0.Data.length c0_1] 42, .sl (Kd.int .i64) A0_0 c0_0 x0.Shape, .sl Kd.float A0_1 c0_1 x0.Data] w) ?_ ?_
          · refine wpLoop (ref1_Turn.l1 x0 s272) r286 (fun (s285 : (Int × (List Nat))) (a : Act) (w : World) => Fr 71 a [(1, .pointer (some ⟨b21, 0, none⟩)), (2, .pointer (some ⟨b28, 0, none⟩)), (4, .pointer (some ⟨b71, 0, none⟩)), (6, .int .i64 s272.1), (7, .int .i64 s285.1)] ∧ Mem [] M w0 [.bx b71 [.slice A61 r51.1.Shape.length c62, .slice A63 s285.2.length c65] 42, .ow (Kd.int .i64) 3 A61 c62 r51.1.Shape, .ow Kd.float 47 A63 c65 s285.2, .bx b28 [.slice none 0 0, .slice none 0 0] 42, .bx b21 [.slice A0_0 x0.Shape.length c0_0, .slice A0_1 x0.Data.length c0_1] 42, .sl (Kd.int .i64) A0_0 c0_0 x0.Shape, .sl Kd.float A0_1 c0_1 x0.Data] w) (0, s272.2) hr286 ⟨hf284.sel (l := [1, 2, 4, 6, 7]) (by kernel_rfl), hm278.sel [0, 1, 2, 3, 4, 5, 6] _ rfl (by kernel_rfl)⟩ ?_
            rintro g287 s285 a288 w289 H2 ⟨hf290, hm291⟩
            unfold ref1_Turn.l1 at H2
            refine wp_seq ?_
            refine wp_seq ?_
            rcases ifS_split H2 with ⟨c292, H2⟩ | ⟨c292, H2⟩
            · have q293 := (hm291.slAt 5 rfl).int 1 g49.1 g49.2
              refine reg [.slice A0_0 x0.Shape.length c0_0, .int .i64 (rd x0.Shape 1), .bool true] [1, 2, 4, 6, 7, 44] [(1, .pointer (some ⟨b21, 0, none⟩)), (2, .pointer (some ⟨b28, 0, none⟩)), (4, .pointer (some ⟨b71, 0, none⟩)), (6, .int .i64 s272.1), (7, .int .i64 s285.1), (44, .bool true)] [.cell ⟨b21, 0, none⟩ (.slice A0_0 x0.Shape.length c0_0), .is (Option.isSome A0_0 = true), .is ((0 : Int) ≤ 1 ∧ 1 < (x0.Shape.length : Int)), .cell ((ad A0_0).add ((1 : Int).toNat * 1)) (.int .i64 (rd x0.Shape 1)), .is (decide (s285.1 < (rd x0.Shape 1)) = true)] hf290 (by kernel_rfl) ⟨(hm291.cell 4 rfl rfl), q293.1, g49, q293.2, (decide_eq_true c292), trivial⟩ fun a294 hf295 => ?_
              refine thenN ?_
              refine condT hf295 (by kernel_rfl) ?_
              refine wp_skip ?_
              refine thenN ?_
              refine wp_seq ?_
              refine wp_block ?_
              obtain ⟨g296, H2⟩ := ifS_guard H2
              obtain ⟨g297, H2⟩ := ifS_guard H2
              refine midReg (fun (a : Act) (w : World) => Fr 71 a [(1, .pointer (some ⟨b21, 0, none⟩)), (2, .pointer (some ⟨b28, 0, none⟩)), (4, .pointer (some ⟨b71, 0, none⟩)), (6, .int .i64 s272.1), (7, .int .i64 s285.1)] ∧ Mem [] M w0 [.bx b71 [.slice A61 r51.1.Shape.length c62, .slice A63 s285.2.length c65] 42, .ow (Kd.int .i64) 3 A61 c62 r51.1.Shape, .ow Kd.float 47 A63 c65 (put s285.2 (w64 ((w64 (s285.1 * (rd x0.Shape 0))) + s272.1)) (rd x0.Data (w64 ((w64 (s272.1 * (rd x0.Shape 1))) + s285.1)))), .bx b28 [.slice none 0 0, .slice none 0 0] 42, .bx b21 [.slice A0_0 x0.Shape.length c0_0, .slice A0_1 x0.Data.length c0_1] 42, .sl (Kd.int .i64) A0_0 c0_0 x0.Shape, .sl Kd.float A0_1 c0_1 x0.Data] w) ?_ ?_
              · refine anyG [23] (by kernel_rfl) fun w308 hg309 => ?_
                have hm310 : Mem [] M w0 [.bx b71 [.slice A61 r51.1.Shape.length c62, .slice A63 s285.2.length c65] 42, .ow (Kd.int .i64) 3 A61 c62 r51.1.Shape, .ow Kd.float 47 A63 c65 s285.2, .bx b28 [.slice none 0 0, .slice none 0 0] 42, .bx b21 [.slice A0_0 x0.Shape.length c0_0, .slice A0_1 x0.Data.length c0_1] 42, .sl (Kd.int .i64) A0_0 c0_0 x0.Shape, .sl Kd.float A0_1 c0_1 x0.Data] w308 := hm291.still hg309
                have q323 := (hm310.slAt 5 rfl).int 0 g50.1 g50.2
                have q324 := (hm310.slAt 5 rfl).int 1 g49.1 g49.2
                have q325 := (hm310.slAt 6 rfl).float (w64 ((w64 (s272.1 * (rd x0.Shape 1))) + s285.1)) g296.1 g296.2
                obtain ⟨b326, hb326, kb326⟩ := q325.2
                have q327 := (hm310.owAt 2 rfl).float (w64 ((w64 (s285.1 * (rd x0.Shape 0))) + s272.1)) g297.1 g297.2
                obtain ⟨b328, hb328, kb328⟩ := q327.2
                refine quiet0 [0, 1, 2, 3, 4, 5, 6, 7, 8, 9, 10, 11, 12, 13, 14, 15, 16, 17, 18, 19, 20, 21, 22] [.slice A63 s285.2.length c65, .slice A0_0 x0.Shape.length c0_0, .int .i64 (rd x0.Shape 0), .slice A0_1 x0.Data.length c0_1, .slice A0_0 x0.Shape.length c0_0, .int .i64 (rd x0.Shape 1), .float .f64 b326] [1, 2, 4, 6, 7, 68, 69] #[true, true, true, true, true, true, true, true, true, true, true, true, true, true, true, true, true, true, true, true, true, true, true, false] [(1, .pointer (some ⟨b21, 0, none⟩)), (2, .pointer (some ⟨b28, 0, none⟩)), (4, .pointer (some ⟨b71, 0, none⟩)), (6, .int .i64 s272.1), (7, .int .i64 s285.1), (68, .float .f64 b326), (69, .pointer (some ((ad A63).add (((w64 ((w64 (s285.1 * (rd x0.Shape 0))) + s272.1))).toNat * 1))))] [.cell ⟨b71, 1, none⟩ (.slice A63 s285.2.length c65), .cell ⟨b21, 0, none⟩ (.slice A0_0 x0.Shape.length c0_0), .is (Option.isSome A0_0 = true), .is ((0 : Int) ≤ 0 ∧ 0 < (x0.Shape.length : Int)), .cell ((ad A0_0).add ((0 : Int).toNat * 1)) (.int .i64 (rd x0.Shape 0)), .cell ⟨b21, 1, none⟩ (.slice A0_1 x0.Data.length c0_1), .cell ⟨b21, 0, none⟩ (.slice A0_0 x0.Shape.length c0_0), .is (Option.isSome A0_0 = true), .is ((0 : Int) ≤ 1 ∧ 1 < (x0.Shape.length : Int)), .cell ((ad A0_0).add ((1 : Int).toNat * 1)) (.int .i64 (rd x0.Shape 1)), .is (Option.isSome A0_1 = true), .is (0 ≤ (w64 ((w64 (s272.1 * (rd x0.Shape 1))) + s285.1)) ∧ (w64 ((w64 (s272.1 * (rd x0.Shape 1))) + s285.1)) < (x0.Data.length : Int)), .cell ((ad A0_1).add (((w64 ((w64 (s272.1 * (rd x0.Shape 1))) + s285.1))).toNat * 1)) (.float .f64 b326), .is (Option.isSome A63 = true), .is (0 ≤ (w64 ((w64 (s285.1 * (rd x0.Shape 0))) + s272.1)) ∧ (w64 ((w64 (s285.1 * (rd x0.Shape 0))) + s272.1)) < (s285.2.length : Int))] 1 rfl (by kernel_rfl) (fun _ _ _ _ _ h => nomatch h.1) hf295 (by kernel_rfl) ⟨(hm310.cell 0 rfl rfl), (hm310.cell 4 rfl rfl), q323.1, g50, q323.2, (hm310.cell 4 rfl rfl), (hm310.cell 4 rfl rfl), q324.1, g49, q324.2, q325.1, g296, kb326, q327.1, g297, trivial⟩ fun a329 hf330 => ?_
                refine all1 23 (by kernel_rfl) ?_
                refine opOf hf330 rfl (by kernel_rfl) (aStoreO (kd := Kd.float) (base := 0) (E := 47) (A := A63) (c := c65) (xs := s285.2) (i := (w64 ((w64 (s285.1 * (rd x0.Shape 0))) + s272.1))) (x := (rd x0.Data (w64 ((w64 (s272.1 * (rd x0.Shape 1))) + s285.1)))) (us := [.float .f64 b326]) (sz := 1) hf330 (by kernel_rfl) rfl (by kernel_rfl) (hm310.at 2 rfl) ⟨_, rfl, hb326⟩ g297.1 g297.2 ?_)
                intro w331 hx332 hg333
                refine ⟨.inl (by decide), ?_⟩
                have hm334 : Mem [] M w0 [.bx b71 [.slice A61 r51.1.Shape.length c62, .slice A63 s285.2.length c65] 42, .ow (Kd.int .i64) 3 A61 c62 r51.1.Shape, .ow Kd.float 47 A63 c65 (put s285.2 (w64 ((w64 (s285.1 * (rd x0.Shape 0))) + s272.1)) (rd x0.Data (w64 ((w64 (s272.1 * (rd x0.Shape 1))) + s285.1)))), .bx b28 [.slice none 0 0, .slice none 0 0] 42, .bx b21 [.slice A0_0 x0.Shape.length c0_0, .slice A0_1 x0.Data.length c0_1] 42, .sl (Kd.int .i64) A0_0 c0_0 x0.Shape, .sl Kd.float A0_1 c0_1 x0.Data] w331 := hm310.setOwn 2 _ rfl rfl hx332 hg333 (.inl rfl)
                refine allDone (by kernel_rfl) ⟨rfl, hf330.sel (l := [1, 2, 4, 6, 7]) (by kernel_rfl), hm334.sel [0, 1, 2, 3, 4, 5, 6] _ rfl (by kernel_rfl)⟩
              rintro a335 w336 ⟨hf337, hm338⟩
              refine blkN ?_
              refine thenN ?_
              refine reg [] [1, 2, 4, 6, 7] [(1, .pointer (some ⟨b21, 0, none⟩)), (2, .pointer (some ⟨b28, 0, none⟩)), (4, .pointer (some ⟨b71, 0, none⟩)), (6, .int .i64 s272.1), (7, .int .i64 (w64 (s285.1 + 1)))] [] hf337 (by kernel_rfl) trivial fun a339 hf340 => ?_
              have hf341 : Fr 71 a339 [(1, .pointer (some ⟨b21, 0, none⟩)), (2, .pointer (some ⟨b28, 0, none⟩)), (4, .pointer (some ⟨b71, 0, none⟩)), (6, .int .i64 s272.1), (7, .int .i64 (w64 (s285.1 + 1)))] := hf340.sel (l := [1, 2, 4, 6, 7]) (by kernel_rfl)
              have hm342 : Mem [] M w0 [.bx b71 [.slice A61 r51.1.Shape.length c62, .slice A63 s285.2.length c65] 42, .ow (Kd.int .i64) 3 A61 c62 r51.1.Shape, .ow Kd.float 47 A63 c65 (put s285.2 (w64 ((w64 (s285.1 * (rd x0.Shape 0))) + s272.1)) (rd x0.Data (w64 ((w64 (s272.1 * (rd x0.Shape 1))) + s285.1)))), .bx b28 [.slice none 0 0, .slice none 0 0] 42, .bx b21 [.slice A0_0 x0.Shape.length c0_0, .slice A0_1 x0.Data.length c0_1] 42, .sl (Kd.int .i64) A0_0 c0_0 x0.Shape, .sl Kd.float A0_1 c0_1 x0.Data] w336 := hm338.sel [0, 1, 2, 3, 4, 5, 6] _ rfl (by kernel_rfl)
              exact ⟨((w64 (s285.1 + 1)), (put s285.2 (w64 ((w64 (s285.1 * (rd x0.Shape 0))) + s272.1)) (rd x0.Data (w64 ((w64 (s272.1 * (rd x0.Shape 1))) + s285.1))))), H2, (by simpa only [put_length, List.length_nil] using hf341), (by simpa only [put_length, List.length_nil] using hm342)⟩
            · have q343 := (hm291.slAt 5 rfl).int 1 g49.1 g49.2
              refine reg [.slice A0_0 x0.Shape.length c0_0, .int .i64 (rd x0.Shape 1), .bool false] [1, 2, 4, 6, 7, 44] [(1, .pointer (some ⟨b21, 0, none⟩)), (2, .pointer (some ⟨b28, 0, none⟩)), (4, .pointer (some ⟨b71, 0, none⟩)), (6, .int .i64 s272.1), (7, .int .i64 s285.1), (44, .bool false)] [.cell ⟨b21, 0, none⟩ (.slice A0_0 x0.Shape.length c0_0), .is (Option.isSome A0_0 = true), .is ((0 : Int) ≤ 1 ∧ 1 < (x0.Shape.length : Int)), .cell ((ad A0_0).add ((1 : Int).toNat * 1)) (.int .i64 (rd x0.Shape 1)), .is (decide (s285.1 < (rd x0.Shape 1)) = false)] hf290 (by kernel_rfl) ⟨(hm291.cell 4 rfl rfl), q343.1, g49, q343.2, (decide_eq_false c292), trivial⟩ fun a344 hf345 => ?_
              refine thenN ?_
              refine condF hf345 (by kernel_rfl) ?_
              refine wp_exit ?_
              refine thenE ?_
              refine thenE ?_
              obtain rfl := Option.some.inj H2
              exact .inl ⟨rfl, hf345.sel (l := [1, 2, 4, 6, 7]) (by kernel_rfl), hm291.sel [0, 1, 2, 3, 4, 5, 6] _ rfl (by kernel_rfl)⟩
          rintro a346 w347 ⟨hf348, hm349⟩
          refine blkN ?_
          refine thenN ?_
          refine reg [] [1, 2, 4, 6] [(1, .pointer (some ⟨b21, 0, none⟩)), (2, .pointer (some ⟨b28, 0, none⟩)), (4, .pointer (some ⟨b71, 0, none⟩)), (6, .int .i64 (w64 (s272.1 + 1)))] [] hf348 (by kernel_rfl) trivial fun a350 hf351 => ?_
          exact ⟨((w64 (s272.1 + 1)), r286.2), H1, hf351.sel (l := [1, 2, 4, 6]) (by kernel_rfl), hm349.sel [0, 1, 2, 3, 4, 5, 6] _ rfl (by kernel_rfl)⟩
        · have q352 := (hm278.slAt 5 rfl).int 0 g50.1 g50.2
          refine reg [.slice A0_0 x0.Shape.length c0_0, .int .i64 (rd x0.Shape 0), .bool false] [1, 2, 4, 6, 36] [(1, .pointer (some ⟨b21, 0, none⟩)), (2, .pointer (some ⟨b28, 0, none⟩)), (4, .pointer (some ⟨b71, 0, none⟩)), (6, .int .i64 s272.1), (36, .bool false)] [.cell ⟨b21, 0, none⟩ (.slice A0_0 x0.Shape.length c0_0), .is (Option.isSome A0_0 = true), .is ((0 : Int) ≤ 0 ∧ 0 < (x0.Shape.length : Int)), .cell ((ad A0_0).add ((0 : Int).toNat * 1)) (.int .i64 (rd x0.Shape 0)), .is (decide (s272.1 < (rd x0.Shape 0)) = false)] hf277 (by kernel_rfl) ⟨(hm278.cell 4 rfl rfl), q352.1, g50, q352.2, (decide_eq_false c279), trivial⟩ fun a353 hf354 => ?_
          refine thenN ?_
          refine condF hf354 (by kernel_rfl) ?_
          refine wp_exit ?_
          refine thenE ?_
          refine thenE ?_
          obtain rfl := Option.some.inj H1
          exact .inl ⟨rfl, hf354.sel (l := [1, 2, 4, 6]) (by kernel_rfl), hm278.sel [0, 1, 2, 3, 4, 5, 6] _ rfl (by kernel_rfl)⟩
      rintro a355 w356 ⟨hf357, hm358⟩
      refine thenN ?_
      refine wp_seq ?_
      refine inReg ?_
      refine go 1 [.agg #[.slice A61 r51.1.Shape.length c62, .slice A63 r273.2.length c65]] [2, 70] [(2, .pointer (some ⟨b28, 0, none⟩)), (70, .agg #[.slice A61 r51.1.Shape.length c62, .slice A63 r273.2.length c65])] [.cell ⟨b71, 0, none⟩ (.slice A61 r51.1.Shape.length c62), .cell ⟨b71, 1, none⟩ (.slice A63 r273.2.length c65)] hf357 (by kernel_rfl) ⟨(hm358.cell 0 rfl rfl), (hm358.cell 0 rfl rfl), trivial⟩ fun a359 hf360 => ?_
      refine listOf hf360 rfl (by kernel_rfl) (aStoreB (b := b28) (j := 0) (T := 42) (cs := [.slice none 0 0, .slice none 0 0]) (us := [.slice A61 r51.1.Shape.length c62, .slice A63 r273.2.length c65]) (cs' := [.slice A61 r51.1.Shape.length c62, .slice A63 r273.2.length c65]) hf360 (by kernel_rfl) (hm358.bxAt 3 rfl) (by kernel_rfl) (by kernel_rfl) (by kernel_rfl) ?_)
      intro w361 hx362 hg363
      have hm364 : Mem [] M w0 [.bx b71 [.slice A61 r51.1.Shape.length c62, .slice A63 r273.2.length c65] 42, .ow (Kd.int .i64) 3 A61 c62 r51.1.Shape, .ow Kd.float 47 A63 c65 r273.2, .bx b28 [.slice A61 r51.1.Shape.length c62, .slice A63 r273.2.length c65] 42, .bx b21 [.slice A0_0 x0.Shape.length c0_0, .slice A0_1 x0.Data.length c0_1] 42, .sl (Kd.int .i64) A0_0 c0_0 x0.Shape, .sl Kd.float A0_1 c0_1 x0.Data] w361 := hm358.setBox 3 _ rfl rfl hx362 hg363
      refine go 1 [] [2, 3] [(2, .pointer (some ⟨b28, 0, none⟩)), (3, .int .i64 0)] [] hf360 (by kernel_rfl) trivial fun a365 hf366 => ?_
      refine endL rfl ?_
      have hm367 : Mem [] M w0 [.ow (Kd.int .i64) 3 A61 c62 r51.1.Shape, .ow Kd.float 47 A63 c65 r273.2, .bx b28 [.slice A61 r51.1.Shape.length c62, .slice A63 r273.2.length c65] 42] w361 := hm364.sel [1, 2, 3] _ rfl (by kernel_rfl)
      refine thenN ?_
      refine wp_ret ?_
      have hm368 : Mem [] M w0 [.ow (Kd.int .i64) 3 A61 c62 r51.1.Shape, .ow Kd.float 47 A63 c65 r273.2] w361 := hm367.sel [0, 1] _ rfl (by kernel_rfl)
      obtain rfl := Option.some.inj H0
      refine ret [.agg #[.slice A61 r51.1.Shape.length c62, .slice A63 r273.2.length c65]] [.agg #[.slice A61 r51.1.Shape.length c62, .slice A63 r273.2.length c65], .int .i64 0] [.cell ⟨b28, 0, none⟩ (.slice A61 r51.1.Shape.length c62), .cell ⟨b28, 1, none⟩ (.slice A63 r273.2.length c65)] hf366 (by kernel_rfl) ⟨(hm367.cell 2 rfl rfl), (hm367.cell 2 rfl rfl), trivial⟩ ?_
      exact ⟨_, rfl, A61, c62, A63, c65, rfl, hm368⟩
    · refine inReg ?_
      refine go 1 [.agg #[.slice A0_0 x0.Shape.length c0_0, .slice A0_1 x0.Data.length c0_1]] [1, 2, 8] [(1, .pointer (some ⟨b21, 0, none⟩)), (2, .pointer (some ⟨b28, 0, none⟩)), (8, .agg #[.slice A0_0 x0.Shape.length c0_0, .slice A0_1 x0.Data.length c0_1])] [.cell ⟨b21, 0, none⟩ (.slice A0_0 x0.Shape.length c0_0), .cell ⟨b21, 1, none⟩ (.slice A0_1 x0.Data.length c0_1)] hf36 (by kernel_rfl) ⟨(hm34.cell 1 rfl rfl), (hm34.cell 1 rfl rfl), trivial⟩ fun a370 hf371 => ?_
      refine listOf hf371 rfl (by kernel_rfl) (aCall (fid := 41) (args := [.agg #[.slice A0_0 x0.Shape.length c0_0, .slice A0_1 x0.Data.length c0_1]]) (d := 9) hf371 (by kernel_rfl) (by kernel_rfl) callable41 (ref1_TensorMay.calls _ _ x0 A0_0 x0.Shape.length c0_0 rfl A0_1 x0.Data.length c0_1 rfl (hm34.give [2, 3] [.sl (Kd.int .i64) A0_0 c0_0 x0.Shape, .sl Kd.float A0_1 c0_1 x0.Data] rfl rfl) r37 hr37) ?_)
      rintro _ w372 a373 ⟨rfl, hk375⟩ hf374
      have hm376 : Mem [] M w0 [.bx b28 [.slice none 0 0, .slice none 0 0] 42, .bx b21 [.slice A0_0 x0.Shape.length c0_0, .slice A0_1 x0.Data.length c0_1] 42, .sl (Kd.int .i64) A0_0 c0_0 x0.Shape, .sl Kd.float A0_1 c0_1 x0.Data] w372 := hm34.still hk375.cum.none
      rw [c38] at hf374
      refine go 7 [.slice A0_0 x0.Shape.length c0_0, .bool true] [1, 2, 16] [(1, .pointer (some ⟨b21, 0, none⟩)), (2, .pointer (some ⟨b28, 0, none⟩)), (16, .bool true)] [.cell ⟨b21, 0, none⟩ (.slice A0_0 x0.Shape.length c0_0), .is ((((x0.Shape.length : Int) : Int) != 2) = true)] hf374 (by kernel_rfl) ⟨(hm376.cell 1 rfl rfl), (neT c39), trivial⟩ fun a377 hf378 => ?_
      refine endL rfl ?_
      refine thenN ?_
      refine condT hf378 (by kernel_rfl) ?_
      refine wp_seq ?_
      refine inReg ?_
      refine go 1 [] [2, 17] [(2, .pointer (some ⟨b28, 0, none⟩)), (17, .agg #[.slice none 0 0, .slice none 0 0])] [] hf378 (by kernel_rfl) trivial fun a379 hf380 => ?_
      refine listOf hf380 rfl (by kernel_rfl) (aStoreB (b := b28) (j := 0) (T := 42) (cs := [.slice none 0 0, .slice none 0 0]) (us := [.slice none 0 0, .slice none 0 0]) (cs' := [.slice none 0 0, .slice none 0 0]) hf380 (by kernel_rfl) (hm376.bxAt 0 rfl) (by kernel_rfl) (by kernel_rfl) (by kernel_rfl) ?_)
      intro w381 hx382 hg383
      have hm384 : Mem [] M w0 [.bx b28 [.slice none 0 0, .slice none 0 0] 42, .bx b21 [.slice A0_0 x0.Shape.length c0_0, .slice A0_1 x0.Data.length c0_1] 42, .sl (Kd.int .i64) A0_0 c0_0 x0.Shape, .sl Kd.float A0_1 c0_1 x0.Data] w381 := hm376.setBox 0 _ rfl rfl hx382 hg383
      refine go 1 [] [2, 3] [(2, .pointer (some ⟨b28, 0, none⟩)), (3, .int .i64 2)] [] hf380 (by kernel_rfl) trivial fun a385 hf386 => ?_
      refine endL rfl ?_
      have hm387 : Mem [] M w0 [.bx b28 [.slice none 0 0, .slice none 0 0] 42] w381 := hm384.sel [0] _ rfl (by kernel_rfl)
      refine thenN ?_
      refine wp_ret ?_
      refine thenR ?_
      have hm388 : Mem [] M w0 [.ow (Kd.int .i64) 3 none 0 ([] : (List Int)), .bx b28 [.slice none 0 0, .slice none 0 0] 42] w381 := hm387.nilOw (Kd.int .i64) 3
      have hm389 : Mem [] M w0 [.ow Kd.float 47 none 0 ([] : (List Nat)), .ow (Kd.int .i64) 3 none 0 ([] : (List Int)), .bx b28 [.slice none 0 0, .slice none 0 0] 42] w381 := hm388.nilOw Kd.float 47
      have hm390 : Mem [] M w0 [.ow (Kd.int .i64) 3 none 0 ([] : (List Int)), .ow Kd.float 47 none 0 ([] : (List Nat))] w381 := hm389.sel [1, 0] _ rfl (by kernel_rfl)
      obtain rfl := Option.some.inj H0
      refine ret [.agg #[.slice none 0 0, .slice none 0 0]] [.agg #[.slice none 0 0, .slice none 0 0], .int .i64 2] [.cell ⟨b28, 0, none⟩ (.slice none 0 0), .cell ⟨b28, 1, none⟩ (.slice none 0 0)] hf386 (by kernel_rfl) ⟨(hm387.cell 0 rfl rfl), (hm387.cell 0 rfl rfl), trivial⟩ ?_
      exact ⟨_, rfl, none, 0, none, 0, rfl, hm390⟩
  · refine inReg ?_
    refine go 1 [.agg #[.slice A0_0 x0.Shape.length c0_0, .slice A0_1 x0.Data.length c0_1]] [1, 2, 8] [(1, .pointer (some ⟨b21, 0, none⟩)), (2, .pointer (some ⟨b28, 0, none⟩)), (8, .agg #[.slice A0_0 x0.Shape.length c0_0, .slice A0_1 x0.Data.length c0_1])] [.cell ⟨b21, 0, none⟩ (.slice A0_0 x0.Shape.length c0_0), .cell ⟨b21, 1, none⟩ (.slice A0_1 x0.Data.length c0_1)] hf36 (by kernel_rfl) ⟨(hm34.cell 1 rfl rfl), (hm34.cell 1 rfl rfl), trivial⟩ fun a392 hf393 => ?_
    refine listOf hf393 rfl (by kernel_rfl) (aCall (fid := 41) (args := [.agg #[.slice A0_0 x0.Shape.length c0_0, .slice A0_1 x0.Data.length c0_1]]) (d := 9) hf393 (by kernel_rfl) (by kernel_rfl) callable41 (ref1_TensorMay.calls _ _ x0 A0_0 x0.Shape.length c0_0 rfl A0_1 x0.Data.length c0_1 rfl (hm34.give [2, 3] [.sl (Kd.int .i64) A0_0 c0_0 x0.Shape, .sl Kd.float A0_1 c0_1 x0.Data] rfl rfl) r37 hr37) ?_)
    rintro _ w394 a395 ⟨rfl, hk397⟩ hf396
    have hm398 : Mem [] M w0 [.bx b28 [.slice none 0 0, .slice none 0 0] 42, .bx b21 [.slice A0_0 x0.Shape.length c0_0, .slice A0_1 x0.Data.length c0_1] 42, .sl (Kd.int .i64) A0_0 c0_0 x0.Shape, .sl Kd.float A0_1 c0_1 x0.Data] w394 := hm34.still hk397.cum.none
    rw [c38] at hf396
    refine go 7 [] [1, 2, 16] [(1, .pointer (some ⟨b21, 0, none⟩)), (2, .pointer (some ⟨b28, 0, none⟩)), (16, .bool true)] [] hf396 (by kernel_rfl) trivial fun a399 hf400 => ?_
    refine endL rfl ?_
    refine thenN ?_
    refine condT hf400 (by kernel_rfl) ?_
    refine wp_seq ?_
    refine inReg ?_
    refine go 1 [] [2, 17] [(2, .pointer (some ⟨b28, 0, none⟩)), (17, .agg #[.slice none 0 0, .slice none 0 0])] [] hf400 (by kernel_rfl) trivial fun a401 hf402 => ?_
    refine listOf hf402 rfl (by kernel_rfl) (aStoreB (b := b28) (j := 0) (T := 42) (cs := [.slice none 0 0, .slice none 0 0]) (us := [.slice none 0 0, .slice none 0 0]) (cs' := [.slice none 0 0, .slice none 0 0]) hf402 (by kernel_rfl) (hm398.bxAt 0 rfl) (by kernel_rfl) (by kernel_rfl) (by kernel_rfl) ?_)
    intro w403 hx404 hg405
    have hm406 : Mem [] M w0 [.bx b28 [.slice none 0 0, .slice none 0 0] 42, .bx b21 [.slice A0_0 x0.Shape.length c0_0, .slice A0_1 x0.Data.length c0_1] 42, .sl (Kd.int .i64) A0_0 c0_0 x0.Shape, .sl Kd.float A0_1 c0_1 x0.Data] w403 := hm398.setBox 0 _ rfl rfl hx404 hg405
    refine go 1 [] [2, 3] [(2, .pointer (some ⟨b28, 0, none⟩)), (3, .int .i64 2)] [] hf402 (by kernel_rfl) trivial fun a407 hf408 => ?_
    refine endL rfl ?_
    have hm409 : Mem [] M w0 [.bx b28 [.slice none 0 0, .slice none 0 0] 42] w403 := hm406.sel [0] _ rfl (by kernel_rfl)
    refine thenN ?_
    refine wp_ret ?_
    refine thenR ?_
    have hm410 : Mem [] M w0 [.ow (Kd.int .i64) 3 none 0 ([] : (List Int)), .bx b28 [.slice none 0 0, .slice none 0 0] 42] w403 := hm409.nilOw (Kd.int .i64) 3
    have hm411 : Mem [] M w0 [.ow Kd.float 47 none 0 ([] : (List Nat)), .ow (Kd.int .i64) 3 none 0 ([] : (List Int)), .bx b28 [.slice none 0 0, .slice none 0 0] 42] w403 := hm410.nilOw Kd.float 47
    have hm412 : Mem [] M w0 [.ow (Kd.int .i64) 3 none 0 ([] : (List Int)), .ow Kd.float 47 none 0 ([] : (List Nat))] w403 := hm411.sel [1, 0] _ rfl (by kernel_rfl)
    obtain rfl := Option.some.inj H0
    refine ret [.agg #[.slice none 0 0, .slice none 0 0]] [.agg #[.slice none 0 0, .slice none 0 0], .int .i64 2] [.cell ⟨b28, 0, none⟩ (.slice none 0 0), .cell ⟨b28, 1, none⟩ (.slice none 0 0)] hf408 (by kernel_rfl) ⟨(hm409.cell 0 rfl rfl), (hm409.cell 0 rfl rfl), trivial⟩ ?_
    exact ⟨_, rfl, none, 0, none, 0, rfl, hm412⟩

/-! ### backstitch/backstitchref1.Fold -/
noncomputable def ref1_Fold.F : Nat → (List Nat) → Option Nat
  | 0, _ => none
  | k + 1, x0 =>
  if (x0.length : Int) = 0 then (some 0)
  else (if (x0.length : Int) = 1 then (if (0 : Int) ≤ 0 ∧ 0 < (x0.length : Int) then (some (rd x0 0))
  else none)
  else (if 0 ≤ (w64 (Int.tdiv (w64 ((x0.length : Int) + 1)) 2)) ∧ (w64 (Int.tdiv (w64 ((x0.length : Int) + 1)) 2)) ≤ (x0.length : Int) then ((ref1_Fold.F k ((List.take (((w64 (Int.tdiv (w64 ((x0.length : Int) + 1)) 2))).toNat) x0).drop 0)).bind fun r51 =>
  (ref1_Fold.F k ((List.take x0.length x0).drop (((w64 (Int.tdiv (w64 ((x0.length : Int) + 1)) 2))).toNat))).bind fun r52 =>
  some (fadd r51 r52))
  else none))
set_option maxRecDepth 100000 in
set_option maxHeartbeats 4000000 in
theorem ref1_Fold.callsF (k : Nat) : ∀ (M : List (Option Nat)) (w0 : World) (x0 : (List Nat)) (A0 : Option Addr) (n0 c0 : Nat) (e0 : n0 = x0.length) (hm0 : Mem [] M w0 [.sl Kd.float A0 c0 x0] w0) (r : Nat) (H0 : ref1_Fold.F k x0 = some r),
    Calls Try.prog 62 [.slice A0 n0 c0].toArray w0 (fun x w' => ∃ v, x = .returned v ∧ ∃ br0, v = .float .f64 br0 ∧ FR br0 r ∧ Mem [] M w0 [] w') := by
  induction k with
  | zero => intro M w0 x0 A0 n0 c0 e0 hm0 r H0; exact absurd H0 (by simp [ref1_Fold.F])
  | succ k ih =>
  intro M w0 x0 A0 n0 c0 e0 hm0 r H0
  rw [ref1_Fold.F] at H0
  subst e0
  refine enter (n := 26) Try.func62 rfl rfl (by kernel_rfl) fun a0 (hf0 : Fr 26 a0 [(0, .slice A0 x0.length c0)]) => ?_
  refine wp_seq ?_
  refine reg [] [0] [(0, .slice A0 x0.length c0)] [] hf0 (by kernel_rfl) trivial fun a21 hf22 => ?_
  refine thenN ?_
  refine wp_seq ?_
  refine wp_seq ?_
  refine reg [] [0, 5] [(0, .slice A0 x0.length c0), (5, .int .i64 (x0.length : Int))] [] hf22 (by kernel_rfl) trivial fun a23 hf24 => ?_
  refine thenN ?_
  refine wp_block ?_
  refine wp_seq ?_
  rcases if_split H0 with ⟨c25, H0⟩ | ⟨c25, H0⟩
  · refine reg [.bool true] [0, 5, 6] [(0, .slice A0 x0.length c0), (5, .int .i64 (x0.length : Int)), (6, .bool true)] [.is ((((x0.length : Int) : Int) == 0) = true)] hf24 (by kernel_rfl) ⟨(eqT c25), trivial⟩ fun a26 hf27 => ?_
    refine thenN ?_
    refine condT hf27 (by kernel_rfl) ?_
    refine wp_seq ?_
    refine reg [] [2] [(2, .float .f64 0)] [] hf27 (by kernel_rfl) trivial fun a28 hf29 => ?_
    have hm30 : Mem [] M w0 [] w0 := hm0.sel [] _ rfl (by kernel_rfl)
    refine thenN ?_
    refine wp_ret ?_
    refine blkR ?_
    refine thenR ?_
    have hm31 : Mem [] M w0 [] w0 := hm30.sel [] _ rfl (by kernel_rfl)
    obtain rfl := Option.some.inj H0
    refine ret [] [.float .f64 0] [] hf29 (by kernel_rfl) trivial ?_
    exact ⟨_, rfl, 0, rfl, (FR.lit (by kernel_rfl) (by kernel_rfl)), hm31⟩
  · refine reg [.bool false] [0, 5, 6] [(0, .slice A0 x0.length c0), (5, .int .i64 (x0.length : Int)), (6, .bool false)] [.is ((((x0.length : Int) : Int) == 0) = false)] hf24 (by kernel_rfl) ⟨(eqF c25), trivial⟩ fun a33 hf34 => ?_
    refine thenN ?_
    refine condF hf34 (by kernel_rfl) ?_
    refine wp_seq ?_
    rcases if_split H0 with ⟨c35, H0⟩ | ⟨c35, H0⟩
    · refine reg [.bool true] [0, 8] [(0, .slice A0 x0.length c0), (8, .bool true)] [.is ((((x0.length : Int) : Int) == 1) = true)] hf34 (by kernel_rfl) ⟨(eqT c35), trivial⟩ fun a36 hf37 => ?_
      refine thenN ?_
      refine condT hf37 (by kernel_rfl) ?_
      refine wp_seq ?_
      obtain ⟨g38, H0⟩ := if_guard H0
      have q39 := (hm0.slAt 0 rfl).float 0 g38.1 g38.2
      obtain ⟨b40, hb40, kb40⟩ := q39.2
      refine reg [.float .f64 b40] [2] [(2, .float .f64 b40)] [.is (Option.isSome A0 = true), .is ((0 : Int) ≤ 0 ∧ 0 < (x0.length : Int)), .cell ((ad A0).add ((0 : Int).toNat * 1)) (.float .f64 b40)] hf37 (by kernel_rfl) ⟨q39.1, g38, kb40, trivial⟩ fun a41 hf42 => ?_
      have hm43 : Mem [] M w0 [] w0 := hm0.sel [] _ rfl (by kernel_rfl)
      refine thenN ?_
      refine wp_ret ?_
      refine blkR ?_
      refine thenR ?_
      have hm44 : Mem [] M w0 [] w0 := hm43.sel [] _ rfl (by kernel_rfl)
      obtain rfl := Option.some.inj H0
      refine ret [] [.float .f64 b40] [] hf42 (by kernel_rfl) trivial ?_
      exact ⟨_, rfl, b40, rfl, hb40, hm44⟩
    · refine reg [.bool false] [0, 8] [(0, .slice A0 x0.length c0), (8, .bool false)] [.is ((((x0.length : Int) : Int) == 1) = false)] hf34 (by kernel_rfl) ⟨(eqF c35), trivial⟩ fun a46 hf47 => ?_
      refine thenN ?_
      refine condF hf47 (by kernel_rfl) ?_
      refine wp_skip ?_
      refine blkN ?_
      refine thenN ?_
      refine wp_seq ?_
      refine reg [] [0, 3] [(0, .slice A0 x0.length c0), (3, .int .i64 (w64 (Int.tdiv (w64 ((x0.length : Int) + 1)) 2)))] [.is ((2 : Int) ≠ 0)] hf47 (by kernel_rfl) ⟨(okIs (by decide)), trivial⟩ fun a48 hf49 => ?_
      refine thenN ?_
      refine wp_seq ?_
      obtain ⟨g50, H0⟩ := if_guard H0
      obtain ⟨r51, hr51, H0⟩ := ob_split H0
      obtain ⟨r52, hr52, H0⟩ := ob_split H0
      refine midReg (fun (a : Act) (w : World) => ∃ (b70 : Nat), Fr 26 a [(2, .float .f64 b70)] ∧ FR b70 (fadd r51 r52) ∧ Mem [] M w0 [] w) ?_ ?_
      · refine anyG [] (by kernel_rfl) fun w77 hg78 => ?_
        have hm79 : Mem [] M w0 [.sl Kd.float A0 c0 x0] w77 := hm0.still hg78
        have e106 : x0.length = x0.length := rfl
        have e106l : 0 ≤ ((w64 (Int.tdiv (w64 ((x0.length : Int) + 1)) 2))).toNat := by omega
        have e106h : ((w64 (Int.tdiv (w64 ((x0.length : Int) + 1)) 2))).toNat ≤ x0.length := by omega
        have hm107 : Mem [] M w0 [.sl Kd.float (sub A0 c0 0 1) (c0 - 0) ((List.take (((w64 (Int.tdiv (w64 ((x0.length : Int) + 1)) 2))).toNat) x0).drop 0), .sl Kd.float A0 c0 x0] w77 := hm79.sub 0 rfl e106l (e106 ▸ e106h)
        have e108 : x0.length = x0.length := rfl
        have e108l : ((w64 (Int.tdiv (w64 ((x0.length : Int) + 1)) 2))).toNat ≤ x0.length := by omega
        have e108h : x0.length ≤ x0.length := by omega
        have hm109 : Mem [] M w0 [.sl Kd.float (sub A0 c0 (((w64 (Int.tdiv (w64 ((x0.length : Int) + 1)) 2))).toNat) 1) (c0 - ((w64 (Int.tdiv (w64 ((x0.length : Int) + 1)) 2))).toNat) ((List.take x0.length x0).drop (((w64 (Int.tdiv (w64 ((x0.length : Int) + 1)) 2))).toNat)), .sl Kd.float (sub A0 c0 0 1) (c0 - 0) ((List.take (((w64 (Int.tdiv (w64 ((x0.length : Int) + 1)) 2))).toNat) x0).drop 0), .sl Kd.float A0 c0 x0] w77 := hm107.sub 1 rfl e108l (e108 ▸ e108h)
        refine quiet0 [0, 1, 2, 4, 5, 6] [] [19, 23] #[true, true, true, false, true, true, true, false, false, false] [(19, .slice (sub A0 c0 0 1) (((w64 (Int.tdiv (w64 ((x0.length : Int) + 1)) 2))).toNat - 0) (c0 - 0)), (23, .slice (sub A0 c0 (((w64 (Int.tdiv (w64 ((x0.length : Int) + 1)) 2))).toNat) 1) (x0.length - ((w64 (Int.tdiv (w64 ((x0.length : Int) + 1)) 2))).toNat) (c0 - ((w64 (Int.tdiv (w64 ((x0.length : Int) + 1)) 2))).toNat))] [.is (0 ≤ (w64 (Int.tdiv (w64 ((x0.length : Int) + 1)) 2)) ∧ (w64 (Int.tdiv (w64 ((x0.length : Int) + 1)) 2)) ≤ (c0 : Int)), .is (0 ≤ (w64 (Int.tdiv (w64 ((x0.length : Int) + 1)) 2)) ∧ (w64 (Int.tdiv (w64 ((x0.length : Int) + 1)) 2)) ≤ (x0.length : Int))] 4 rfl (by kernel_rfl) (fun _ _ _ _ _ h => nomatch h.1) hf49 (by kernel_rfl) ⟨(sub_cap rfl (hm79.cpAt 0 rfl) g50), g50, trivial⟩ fun a110 hf111 => ?_
        refine all1 3 (by kernel_rfl) ?_
        refine opOf hf111 rfl (by kernel_rfl) (aCall (fid := 62) (args := [.slice (sub A0 c0 0 1) (((w64 (Int.tdiv (w64 ((x0.length : Int) + 1)) 2))).toNat - 0) (c0 - 0)]) (d := 20) hf111 (by kernel_rfl) (by kernel_rfl) callable62 (ih _ _ ((List.take (((w64 (Int.tdiv (w64 ((x0.length : Int) + 1)) 2))).toNat) x0).drop 0) (sub A0 c0 0 1) (((w64 (Int.tdiv (w64 ((x0.length : Int) + 1)) 2))).toNat - 0) (c0 - 0) (len_sub e106 e106l e106h) (hm109.give [1] [.sl Kd.float (sub A0 c0 0 1) (c0 - 0) ((List.take (((w64 (Int.tdiv (w64 ((x0.length : Int) + 1)) 2))).toNat) x0).drop 0)] rfl rfl) r51 hr51) ?_)
        rintro _ w113 a114 ⟨b112, rfl, hb112, hk116⟩ hf115
        refine ⟨.inr (Gr.still hk116.cum.none), ?_⟩
        have hm117 : Mem [] M w0 [.sl Kd.float (sub A0 c0 (((w64 (Int.tdiv (w64 ((x0.length : Int) + 1)) 2))).toNat) 1) (c0 - ((w64 (Int.tdiv (w64 ((x0.length : Int) + 1)) 2))).toNat) ((List.take x0.length x0).drop (((w64 (Int.tdiv (w64 ((x0.length : Int) + 1)) 2))).toNat)), .sl Kd.float (sub A0 c0 0 1) (c0 - 0) ((List.take (((w64 (Int.tdiv (w64 ((x0.length : Int) + 1)) 2))).toNat) x0).drop 0), .sl Kd.float A0 c0 x0] w113 := hm109.still hk116.cum.none
        refine all1 7 (by kernel_rfl) ?_
        refine opOf hf115 rfl (by kernel_rfl) (aCall (fid := 62) (args := [.slice (sub A0 c0 (((w64 (Int.tdiv (w64 ((x0.length : Int) + 1)) 2))).toNat) 1) (x0.length - ((w64 (Int.tdiv (w64 ((x0.length : Int) + 1)) 2))).toNat) (c0 - ((w64 (Int.tdiv (w64 ((x0.length : Int) + 1)) 2))).toNat)]) (d := 24) hf115 (by kernel_rfl) (by kernel_rfl) callable62 (ih _ _ ((List.take x0.length x0).drop (((w64 (Int.tdiv (w64 ((x0.length : Int) + 1)) 2))).toNat)) (sub A0 c0 (((w64 (Int.tdiv (w64 ((x0.length : Int) + 1)) 2))).toNat) 1) (x0.length - ((w64 (Int.tdiv (w64 ((x0.length : Int) + 1)) 2))).toNat) (c0 - ((w64 (Int.tdiv (w64 ((x0.length : Int) + 1)) 2))).toNat) (len_sub e108 e108l e108h) (hm117.give [0] [.sl Kd.float (sub A0 c0 (((w64 (Int.tdiv (w64 ((x0.length : Int) + 1)) 2))).toNat) 1) (c0 - ((w64 (Int.tdiv (w64 ((x0.length : Int) + 1)) 2))).toNat) ((List.take x0.length x0).drop (((w64 (Int.tdiv (w64 ((x0.length : Int) + 1)) 2))).toNat))] rfl rfl) r52 hr52) ?_)
        rintro _ w119 a120 ⟨b118, rfl, hb118, hk122⟩ hf121
        refine ⟨.inr (Gr.still hk122.cum.none), ?_⟩
        have hm123 : Mem [] M w0 [.sl Kd.float (sub A0 c0 (((w64 (Int.tdiv (w64 ((x0.length : Int) + 1)) 2))).toNat) 1) (c0 - ((w64 (Int.tdiv (w64 ((x0.length : Int) + 1)) 2))).toNat) ((List.take x0.length x0).drop (((w64 (Int.tdiv (w64 ((x0.length : Int) + 1)) 2))).toNat)), .sl Kd.float (sub A0 c0 0 1) (c0 - 0) ((List.take (((w64 (Int.tdiv (w64 ((x0.length : Int) + 1)) 2))).toNat) x0).drop 0), .sl Kd.float A0 c0 x0] w119 := hm117.still hk122.cum.none
        refine all1 8 (by kernel_rfl) ?_
        refine opOf hf121 rfl (by kernel_rfl) (aArith (k := 0) (b := b112) (c := b118) (x := r51) (y := r52) (d := 25) hf121 (by kernel_rfl) (by kernel_rfl) hb112 hb118 ?_)
        intro b124 w125 a126 hb124 hg128 hf127
        refine ⟨.inr (Gr.still hg128), ?_⟩
        replace hb124 : FR b124 (fadd r51 r52) := hb124
        have hm129 : Mem [] M w0 [.sl Kd.float (sub A0 c0 (((w64 (Int.tdiv (w64 ((x0.length : Int) + 1)) 2))).toNat) 1) (c0 - ((w64 (Int.tdiv (w64 ((x0.length : Int) + 1)) 2))).toNat) ((List.take x0.length x0).drop (((w64 (Int.tdiv (w64 ((x0.length : Int) + 1)) 2))).toNat)), .sl Kd.float (sub A0 c0 0 1) (c0 - 0) ((List.take (((w64 (Int.tdiv (w64 ((x0.length : Int) + 1)) 2))).toNat) x0).drop 0), .sl Kd.float A0 c0 x0] w125 := hm123.still hg128
        refine quiet0 [9] [] [2] #[true, true, true, true, true, true, true, true, true, true] [(2, .float .f64 b124)] [] 0 rfl (by kernel_rfl) (fun _ _ _ _ _ h => nomatch h.1) hf127 (by kernel_rfl) trivial fun a130 hf131 => ?_
        refine allDone (by kernel_rfl) ⟨rfl, b124, hf131.sel (l := [2]) (by kernel_rfl), hb124, hm129.sel [] _ rfl (by kernel_rfl)⟩
      rintro a132 w133 ⟨b70, hf134, hb70, hm135⟩
      refine thenN ?_
      refine wp_ret ?_
      have hm136 : Mem [] M w0 [] w133 := hm135.sel [] _ rfl (by kernel_rfl)
      obtain rfl := Option.some.inj H0
      refine ret [] [.float .f64 b70] [] hf134 (by kernel_rfl) trivial ?_
      exact ⟨_, rfl, b70, rfl, hb70, hm136⟩
noncomputable def ref1_Fold.f (x0 : (List Nat)) : Option Nat := recOf (fun k => ref1_Fold.F k x0)
theorem ref1_Fold.calls (M : List (Option Nat)) (w0 : World) (x0 : (List Nat)) (A0 : Option Addr) (n0 c0 : Nat) (e0 : n0 = x0.length) (hm0 : Mem [] M w0 [.sl Kd.float A0 c0 x0] w0) (r : Nat) (H0 : ref1_Fold.f x0 = some r) :
    Calls Try.prog 62 [.slice A0 n0 c0].toArray w0 (fun x w' => ∃ v, x = .returned v ∧ ∃ br0, v = .float .f64 br0 ∧ FR br0 r ∧ Mem [] M w0 [] w') := by
  obtain ⟨k, hk⟩ := recOf_some H0
  exact ref1_Fold.callsF k M w0 x0 A0 n0 c0 e0 hm0 r hk

/-! ### backstitch/backstitchref1.Sum -/
noncomputable def ref1_Sum.f (x0 : Tensor) : Option (Tensor × Int) :=
  (ref1_TensorMay.f x0).bind fun r37 =>
  if r37 = true then ((ref1_Fold.f x0.Data).bind fun r48 =>
  some ((⟨([1] : List Int), ([r48] : List Nat)⟩ : Tensor), 0))
  else (some ((⟨([] : (List Int)), ([] : (List Nat))⟩ : Tensor), 2))
set_option maxRecDepth 100000 in
set_option maxHeartbeats 4000000 in
theorem ref1_Sum.calls (M : List (Option Nat)) (w0 : World) (x0 : Tensor) (A0_0 : Option Addr) (n0_0 c0_0 : Nat) (e0_0 : n0_0 = x0.Shape.length) (A0_1 : Option Addr) (n0_1 c0_1 : Nat) (e0_1 : n0_1 = x0.Data.length) (hm0 : Mem [] M w0 [.sl (Kd.int .i64) A0_0 c0_0 x0.Shape, .sl Kd.float A0_1 c0_1 x0.Data] w0) (r : (Tensor × Int)) (H0 : ref1_Sum.f x0 = some r) :
    Calls Try.prog 46 [.agg #[.slice A0_0 n0_0 c0_0, .slice A0_1 n0_1 c0_1]].toArray w0 (fun x w' => ∃ v, x = .returned v ∧ ∃ Ar0_0 cr0_0 Ar0_1 cr0_1, v = .tuple #[.agg #[.slice Ar0_0 r.1.Shape.length cr0_0, .slice Ar0_1 r.1.Data.length cr0_1], .int .i64 r.2] ∧ Mem [] M w0 [.ow (Kd.int .i64) 3 Ar0_0 cr0_0 r.1.Shape, .ow Kd.float 47 Ar0_1 cr0_1 r.1.Data] w') := by
  subst e0_0
  subst e0_1
  unfold ref1_Sum.f at H0
  refine enter (n := 14) Try.func46 rfl rfl (by kernel_rfl) fun a0 (hf0 : Fr 14 a0 [(0, .agg #[.slice A0_0 x0.Shape.length c0_0, .slice A0_1 x0.Data.length c0_1])]) => ?_
  refine wp_seq ?_
  refine inReg ?_
  refine listOf hf0 rfl (by kernel_rfl) (aNew (cs := [.slice A0_0 x0.Shape.length c0_0, .slice A0_1 x0.Data.length c0_1]) (T := 42) (d := 1) hf0 (by kernel_rfl) (by kernel_rfl) ?_)
  intro b21 w22 a23 hbb21 hx25 hg26 hf24
  have hm27 : Mem [] M w0 [.bx b21 [.slice A0_0 x0.Shape.length c0_0, .slice A0_1 x0.Data.length c0_1] 42, .sl (Kd.int .i64) A0_0 c0_0 x0.Shape, .sl Kd.float A0_1 c0_1 x0.Data] w22 := hm0.box hbb21 hx25 hg26
  refine listOf hf24 rfl (by kernel_rfl) (aNew (cs := [.slice none 0 0, .slice none 0 0]) (T := 42) (d := 2) hf24 (by kernel_rfl) (by kernel_rfl) ?_)
  intro b28 w29 a30 hbb28 hx32 hg33 hf31
  have hm34 : Mem [] M w0 [.bx b28 [.slice none 0 0, .slice none 0 0] 42, .bx b21 [.slice A0_0 x0.Shape.length c0_0, .slice A0_1 x0.Data.length c0_1] 42, .sl (Kd.int .i64) A0_0 c0_0 x0.Shape, .sl Kd.float A0_1 c0_1 x0.Data] w29 := hm27.box hbb28 hx32 hg33
  refine go 1 [] [1, 2] [(1, .pointer (some ⟨b21, 0, none⟩)), (2, .pointer (some ⟨b28, 0, none⟩))] [] hf31 (by kernel_rfl) trivial fun a35 hf36 => ?_
  refine endL rfl ?_
  refine thenN ?_
  refine wp_seq ?_
  refine wp_seq ?_
  obtain ⟨r37, hr37, H0⟩ := ob_split H0
  rcases ifb_split H0 with ⟨c38, H0⟩ | ⟨c38, H0⟩
  · refine inReg ?_
    refine go 1 [.agg #[.slice A0_0 x0.Shape.length c0_0, .slice A0_1 x0.Data.length c0_1]] [1, 2, 4] [(1, .pointer (some ⟨b21, 0, none⟩)), (2, .pointer (some ⟨b28, 0, none⟩)), (4, .agg #[.slice A0_0 x0.Shape.length c0_0, .slice A0_1 x0.Data.length c0_1])] [.cell ⟨b21, 0, none⟩ (.slice A0_0 x0.Shape.length c0_0), .cell ⟨b21, 1, none⟩ (.slice A0_1 x0.Data.length c0_1)] hf36 (by kernel_rfl) ⟨(hm34.cell 1 rfl rfl), (hm34.cell 1 rfl rfl), trivial⟩ fun a39 hf40 => ?_
    refine listOf hf40 rfl (by kernel_rfl) (aCall (fid := 41) (args := [.agg #[.slice A0_0 x0.Shape.length c0_0, .slice A0_1 x0.Data.length c0_1]]) (d := 5) hf40 (by kernel_rfl) (by kernel_rfl) callable41 (ref1_TensorMay.calls _ _ x0 A0_0 x0.Shape.length c0_0 rfl A0_1 x0.Data.length c0_1 rfl (hm34.give [2, 3] [.sl (Kd.int .i64) A0_0 c0_0 x0.Shape, .sl Kd.float A0_1 c0_1 x0.Data] rfl rfl) r37 hr37) ?_)
    rintro _ w41 a42 ⟨rfl, hk44⟩ hf43
    have hm45 : Mem [] M w0 [.bx b28 [.slice none 0 0, .slice none 0 0] 42, .bx b21 [.slice A0_0 x0.Shape.length c0_0, .slice A0_1 x0.Data.length c0_1] 42, .sl (Kd.int .i64) A0_0 c0_0 x0.Shape, .sl Kd.float A0_1 c0_1 x0.Data] w41 := hm34.still hk44.cum.none
    rw [c38] at hf43
    refine go 1 [] [1, 2, 6] [(1, .pointer (some ⟨b21, 0, none⟩)), (2, .pointer (some ⟨b28, 0, none⟩)), (6, .bool false)] [] hf43 (by kernel_rfl) trivial fun a46 hf47 => ?_
    refine endL rfl ?_
    refine thenN ?_
    refine condF hf47 (by kernel_rfl) ?_
    refine wp_skip ?_
    refine thenN ?_
    refine wp_seq ?_
    obtain ⟨r48, hr48, H0⟩ := ob_split H0
    refine inReg ?_
    refine listOf hf47 rfl (by kernel_rfl) (aLit (cs := [.int .i64 1]) (E := 3) (len := 1) (d := 8) hf47 (by kernel_rfl) (by kernel_rfl) ?_)
    intro b49 w50 a51 hbb49 hx53 hg54 hf52
    have hm55 : Mem [] M w0 [.ow (Kd.int .i64) 3 (some ⟨b49, 0, none⟩) 1 ([1] : List Int), .bx b28 [.slice none 0 0, .slice none 0 0] 42, .bx b21 [.slice A0_0 x0.Shape.length c0_0, .slice A0_1 x0.Data.length c0_1] 42, .sl (Kd.int .i64) A0_0 c0_0 x0.Shape, .sl Kd.float A0_1 c0_1 x0.Data] w50 := Mem.litOwn (kd := (Kd.int .i64)) (xs := ([1] : List Int)) hm45 hbb49 hx53 hg54 (Els.one (kd := (Kd.int .i64)) (us := [.int .i64 1]) (x := 1) rfl) (by simp [maxLen])
    refine go 2 [.slice A0_1 x0.Data.length c0_1] [2, 8, 10] [(2, .pointer (some ⟨b28, 0, none⟩)), (8, .slice (some ⟨b49, 0, none⟩) 1 1), (10, .slice A0_1 x0.Data.length c0_1)] [.cell ⟨b21, 1, none⟩ (.slice A0_1 x0.Data.length c0_1)] hf52 (by kernel_rfl) ⟨(hm55.cell 2 rfl rfl), trivial⟩ fun a56 hf57 => ?_
    refine listOf hf57 rfl (by kernel_rfl) (aCall (fid := 62) (args := [.slice A0_1 x0.Data.length c0_1]) (d := 11) hf57 (by kernel_rfl) (by kernel_rfl) callable62 (ref1_Fold.calls _ _ x0.Data A0_1 x0.Data.length c0_1 rfl (hm55.give [4] [.sl Kd.float A0_1 c0_1 x0.Data] rfl rfl) r48 hr48) ?_)
    rintro _ w59 a60 ⟨b58, rfl, hb58, hk62⟩ hf61
    have hm63 : Mem [] M w0 [.ow (Kd.int .i64) 3 (some ⟨b49, 0, none⟩) 1 ([1] : List Int), .bx b28 [.slice none 0 0, .slice none 0 0] 42, .bx b21 [.slice A0_0 x0.Shape.length c0_0, .slice A0_1 x0.Data.length c0_1] 42, .sl (Kd.int .i64) A0_0 c0_0 x0.Shape, .sl Kd.float A0_1 c0_1 x0.Data] w59 := hm55.still hk62.cum.none
    refine listOf hf61 rfl (by kernel_rfl) (aLit (cs := [.float .f64 b58]) (E := 47) (len := 1) (d := 12) hf61 (by kernel_rfl) (by kernel_rfl) ?_)
    intro b65 w66 a67 hbb65 hx69 hg70 hf68
    have hm71 : Mem [] M w0 [.ow Kd.float 47 (some ⟨b65, 0, none⟩) 1 ([r48] : List Nat), .ow (Kd.int .i64) 3 (some ⟨b49, 0, none⟩) 1 ([1] : List Int), .bx b28 [.slice none 0 0, .slice none 0 0] 42, .bx b21 [.slice A0_0 x0.Shape.length c0_0, .slice A0_1 x0.Data.length c0_1] 42, .sl (Kd.int .i64) A0_0 c0_0 x0.Shape, .sl Kd.float A0_1 c0_1 x0.Data] w66 := Mem.litOwn (kd := Kd.float) (xs := ([r48] : List Nat)) hm63 hbb65 hx69 hg70 (Els.one (kd := Kd.float) (us := [.float .f64 b58]) (x := r48) ⟨_, rfl, hb58⟩) (by simp [maxLen])
    refine go 1 [] [2, 13] [(2, .pointer (some ⟨b28, 0, none⟩)), (13, .agg #[.slice (some ⟨b49, 0, none⟩) 1 1, .slice (some ⟨b65, 0, none⟩) 1 1])] [] hf68 (by kernel_rfl) trivial fun a72 hf73 => ?_
    refine listOf hf73 rfl (by kernel_rfl) (aStoreB (b := b28) (j := 0) (T := 42) (cs := [.slice none 0 0, .slice none 0 0]) (us := [.slice (some ⟨b49, 0, none⟩) 1 1, .slice (some ⟨b65, 0, none⟩) 1 1]) (cs' := [.slice (some ⟨b49, 0, none⟩) 1 1, .slice (some ⟨b65, 0, none⟩) 1 1]) hf73 (by kernel_rfl) (hm71.bxAt 2 rfl) (by kernel_rfl) (by kernel_rfl) (by kernel_rfl) ?_)
    intro w74 hx75 hg76
    have hm77 : Mem [] M w0 [.ow Kd.float 47 (some ⟨b65, 0, none⟩) 1 ([r48] : List Nat), .ow (Kd.int .i64) 3 (some ⟨b49, 0, none⟩) 1 ([1] : List Int), .bx b28 [.slice (some ⟨b49, 0, none⟩) 1 1, .slice (some ⟨b65, 0, none⟩) 1 1] 42, .bx b21 [.slice A0_0 x0.Shape.length c0_0, .slice A0_1 x0.Data.length c0_1] 42, .sl (Kd.int .i64) A0_0 c0_0 x0.Shape, .sl Kd.float A0_1 c0_1 x0.Data] w74 := hm71.setBox 2 _ rfl rfl hx75 hg76
    refine go 1 [] [2, 3] [(2, .pointer (some ⟨b28, 0, none⟩)), (3, .int .i64 0)] [] hf73 (by kernel_rfl) trivial fun a78 hf79 => ?_
    refine endL rfl ?_
    have hm80 : Mem [] M w0 [.ow Kd.float 47 (some ⟨b65, 0, none⟩) 1 ([r48] : List Nat), .ow (Kd.int .i64) 3 (some ⟨b49, 0, none⟩) 1 ([1] : List Int), .bx b28 [.slice (some ⟨b49, 0, none⟩) 1 1, .slice (some ⟨b65, 0, none⟩) 1 1] 42] w74 := hm77.sel [0, 1, 2] _ rfl (by kernel_rfl)
    refine thenN ?_
    refine wp_ret ?_
    have hm81 : Mem [] M w0 [.ow (Kd.int .i64) 3 (some ⟨b49, 0, none⟩) 1 ([1] : List Int), .ow Kd.float 47 (some ⟨b65, 0, none⟩) 1 ([r48] : List Nat)] w74 := hm80.sel [1, 0] _ rfl (by kernel_rfl)
    obtain rfl := Option.some.inj H0
    refine ret [.agg #[.slice (some ⟨b49, 0, none⟩) 1 1, .slice (some ⟨b65, 0, none⟩) 1 1]] [.agg #[.slice (some ⟨b49, 0, none⟩) 1 1, .slice (some ⟨b65, 0, none⟩) 1 1], .int .i64 0] [.cell ⟨b28, 0, none⟩ (.slice (some ⟨b49, 0, none⟩) 1 1), .cell ⟨b28, 1, none⟩ (.slice (some ⟨b65, 0, none⟩) 1 1)] hf79 (by kernel_rfl) ⟨(hm80.cell 2 rfl rfl), (hm80.cell 2 rfl rfl), trivial⟩ ?_
    exact ⟨_, rfl, (some ⟨b49, 0, none⟩), 1, (some ⟨b65, 0, none⟩), 1, rfl, hm81⟩
  · refine inReg ?_
    refine go 1 [.agg #[.slice A0_0 x0.Shape.length c0_0, .slice A0_1 x0.Data.length c0_1]] [1, 2, 4] [(1, .pointer (some ⟨b21, 0, none⟩)), (2, .pointer (some ⟨b28, 0, none⟩)), (4, .agg #[.slice A0_0 x0.Shape.length c0_0, .slice A0_1 x0.Data.length c0_1])] [.cell ⟨b21, 0, none⟩ (.slice A0_0 x0.Shape.length c0_0), .cell ⟨b21, 1, none⟩ (.slice A0_1 x0.Data.length c0_1)] hf36 (by kernel_rfl) ⟨(hm34.cell 1 rfl rfl), (hm34.cell 1 rfl rfl), trivial⟩ fun a83 hf84 => ?_
    refine listOf hf84 rfl (by kernel_rfl) (aCall (fid := 41) (args := [.agg #[.slice A0_0 x0.Shape.length c0_0, .slice A0_1 x0.Data.length c0_1]]) (d := 5) hf84 (by kernel_rfl) (by kernel_rfl) callable41 (ref1_TensorMay.calls _ _ x0 A0_0 x0.Shape.length c0_0 rfl A0_1 x0.Data.length c0_1 rfl (hm34.give [2, 3] [.sl (Kd.int .i64) A0_0 c0_0 x0.Shape, .sl Kd.float A0_1 c0_1 x0.Data] rfl rfl) r37 hr37) ?_)
    rintro _ w85 a86 ⟨rfl, hk88⟩ hf87
    have hm89 : Mem [] M w0 [.bx b28 [.slice none 0 0, .slice none 0 0] 42, .bx b21 [.slice A0_0 x0.Shape.length c0_0, .slice A0_1 x0.Data.length c0_1] 42, .sl (Kd.int .i64) A0_0 c0_0 x0.Shape, .sl Kd.float A0_1 c0_1 x0.Data] w85 := hm34.still hk88.cum.none
    rw [c38] at hf87
    refine go 1 [] [1, 2, 6] [(1, .pointer (some ⟨b21, 0, none⟩)), (2, .pointer (some ⟨b28, 0, none⟩)), (6, .bool true)] [] hf87 (by kernel_rfl) trivial fun a90 hf91 => ?_
    refine endL rfl ?_
    refine thenN ?_
    refine condT hf91 (by kernel_rfl) ?_
    refine wp_seq ?_
    refine inReg ?_
    refine go 1 [] [2, 7] [(2, .pointer (some ⟨b28, 0, none⟩)), (7, .agg #[.slice none 0 0, .slice none 0 0])] [] hf91 (by kernel_rfl) trivial fun a92 hf93 => ?_
    refine listOf hf93 rfl (by kernel_rfl) (aStoreB (b := b28) (j := 0) (T := 42) (cs := [.slice none 0 0, .slice none 0 0]) (us := [.slice none 0 0, .slice none 0 0]) (cs' := [.slice none 0 0, .slice none 0 0]) hf93 (by kernel_rfl) (hm89.bxAt 0 rfl) (by kernel_rfl) (by kernel_rfl) (by kernel_rfl) ?_)
    intro w94 hx95 hg96
    have hm97 : Mem [] M w0 [.bx b28 [.slice none 0 0, .slice none 0 0] 42, .bx b21 [.slice A0_0 x0.Shape.length c0_0, .slice A0_1 x0.Data.length c0_1] 42, .sl (Kd.int .i64) A0_0 c0_0 x0.Shape, .sl Kd.float A0_1 c0_1 x0.Data] w94 := hm89.setBox 0 _ rfl rfl hx95 hg96
    refine go 1 [] [2, 3] [(2, .pointer (some ⟨b28, 0, none⟩)), (3, .int .i64 2)] [] hf93 (by kernel_rfl) trivial fun a98 hf99 => ?_
    refine endL rfl ?_
    have hm100 : Mem [] M w0 [.bx b28 [.slice none 0 0, .slice none 0 0] 42] w94 := hm97.sel [0] _ rfl (by kernel_rfl)
    refine thenN ?_
    refine wp_ret ?_
    refine thenR ?_
    have hm101 : Mem [] M w0 [.ow (Kd.int .i64) 3 none 0 ([] : (List Int)), .bx b28 [.slice none 0 0, .slice none 0 0] 42] w94 := hm100.nilOw (Kd.int .i64) 3
    have hm102 : Mem [] M w0 [.ow Kd.float 47 none 0 ([] : (List Nat)), .ow (Kd.int .i64) 3 none 0 ([] : (List Int)), .bx b28 [.slice none 0 0, .slice none 0 0] 42] w94 := hm101.nilOw Kd.float 47
    have hm103 : Mem [] M w0 [.ow (Kd.int .i64) 3 none 0 ([] : (List Int)), .ow Kd.float 47 none 0 ([] : (List Nat))] w94 := hm102.sel [1, 0] _ rfl (by kernel_rfl)
    obtain rfl := Option.some.inj H0
    refine ret [.agg #[.slice none 0 0, .slice none 0 0]] [.agg #[.slice none 0 0, .slice none 0 0], .int .i64 2] [.cell ⟨b28, 0, none⟩ (.slice none 0 0), .cell ⟨b28, 1, none⟩ (.slice none 0 0)] hf99 (by kernel_rfl) ⟨(hm100.cell 0 rfl rfl), (hm100.cell 0 rfl rfl), trivial⟩ ?_
    exact ⟨_, rfl, none, 0, none, 0, rfl, hm103⟩

/-! ### backstitch/backstitchlaw5.same -/
noncomputable def law5_same.f (x0 : Tensor) (x1 : Int) (x2 : Tensor) (x3 : Int) : Option Bool :=
  if x1 = x3 then ((ref1_SameTensor.f x0 x2).bind fun r38 =>
  some r38)
  else (some false)
set_option maxRecDepth 100000 in
set_option maxHeartbeats 4000000 in
theorem law5_same.calls (M : List (Option Nat)) (w0 : World) (x0 : Tensor) (A0_0 : Option Addr) (n0_0 c0_0 : Nat) (e0_0 : n0_0 = x0.Shape.length) (A0_1 : Option Addr) (n0_1 c0_1 : Nat) (e0_1 : n0_1 = x0.Data.length) (x1 : Int) (x2 : Tensor) (A2_0 : Option Addr) (n2_0 c2_0 : Nat) (e2_0 : n2_0 = x2.Shape.length) (A2_1 : Option Addr) (n2_1 c2_1 : Nat) (e2_1 : n2_1 = x2.Data.length) (x3 : Int) (hm0 : Mem [] M w0 [.sl (Kd.int .i64) A0_0 c0_0 x0.Shape, .sl Kd.float A0_1 c0_1 x0.Data, .sl (Kd.int .i64) A2_0 c2_0 x2.Shape, .sl Kd.float A2_1 c2_1 x2.Data] w0) (r : Bool) (H0 : law5_same.f x0 x1 x2 x3 = some r) :
    Calls Try.prog 47 [.agg #[.slice A0_0 n0_0 c0_0, .slice A0_1 n0_1 c0_1], .int .i64 x1, .agg #[.slice A2_0 n2_0 c2_0, .slice A2_1 n2_1 c2_1], .int .i64 x3].toArray w0 (fun x w' => ∃ v, x = .returned v ∧ v = .bool r ∧ Mem [] M w0 [] w') := by
  subst e0_0
  subst e0_1
  subst e2_0
  subst e2_1
  unfold law5_same.f at H0
  refine enter (n := 17) Try.func47 rfl rfl (by kernel_rfl) fun a0 (hf0 : Fr 17 a0 [(0, .agg #[.slice A0_0 x0.Shape.length c0_0, .slice A0_1 x0.Data.length c0_1]), (1, .int .i64 x1), (2, .agg #[.slice A2_0 x2.Shape.length c2_0, .slice A2_1 x2.Data.length c2_1]), (3, .int .i64 x3)]) => ?_
  refine wp_seq ?_
  refine inReg ?_
  refine listOf hf0 rfl (by kernel_rfl) (aNew (cs := [.slice A0_0 x0.Shape.length c0_0, .slice A0_1 x0.Data.length c0_1]) (T := 42) (d := 4) hf0 (by kernel_rfl) (by kernel_rfl) ?_)
  intro b21 w22 a23 hbb21 hx25 hg26 hf24
  have hm27 : Mem [] M w0 [.bx b21 [.slice A0_0 x0.Shape.length c0_0, .slice A0_1 x0.Data.length c0_1] 42, .sl (Kd.int .i64) A0_0 c0_0 x0.Shape, .sl Kd.float A0_1 c0_1 x0.Data, .sl (Kd.int .i64) A2_0 c2_0 x2.Shape, .sl Kd.float A2_1 c2_1 x2.Data] w22 := hm0.box hbb21 hx25 hg26
  refine listOf hf24 rfl (by kernel_rfl) (aNew (cs := [.slice A2_0 x2.Shape.length c2_0, .slice A2_1 x2.Data.length c2_1]) (T := 42) (d := 6) hf24 (by kernel_rfl) (by kernel_rfl) ?_)
  intro b28 w29 a30 hbb28 hx32 hg33 hf31
  have hm34 : Mem [] M w0 [.bx b28 [.slice A2_0 x2.Shape.length c2_0, .slice A2_1 x2.Data.length c2_1] 42, .bx b21 [.slice A0_0 x0.Shape.length c0_0, .slice A0_1 x0.Data.length c0_1] 42, .sl (Kd.int .i64) A0_0 c0_0 x0.Shape, .sl Kd.float A0_1 c0_1 x0.Data, .sl (Kd.int .i64) A2_0 c2_0 x2.Shape, .sl Kd.float A2_1 c2_1 x2.Data] w29 := hm27.box hbb28 hx32 hg33
  refine go 1 [] [1, 3, 4, 6] [(1, .int .i64 x1), (3, .int .i64 x3), (4, .pointer (some ⟨b21, 0, none⟩)), (6, .pointer (some ⟨b28, 0, none⟩))] [] hf31 (by kernel_rfl) trivial fun a35 hf36 => ?_
  refine endL rfl ?_
  refine thenN ?_
  refine wp_seq ?_
  rcases if_split H0 with ⟨c37, H0⟩ | ⟨c37, H0⟩
  · obtain ⟨r38, hr38, H0⟩ := ob_split H0
    refine inReg ?_
    refine go 6 [.bool true, .agg #[.slice A0_0 x0.Shape.length c0_0, .slice A0_1 x0.Data.length c0_1], .agg #[.slice A2_0 x2.Shape.length c2_0, .slice A2_1 x2.Data.length c2_1]] [12, 13, 14] [(12, .bool true), (13, .agg #[.slice A0_0 x0.Shape.length c0_0, .slice A0_1 x0.Data.length c0_1]), (14, .agg #[.slice A2_0 x2.Shape.length c2_0, .slice A2_1 x2.Data.length c2_1])] [.is (((x1 : Int) == x3) = true), .cell ⟨b21, 0, none⟩ (.slice A0_0 x0.Shape.length c0_0), .cell ⟨b21, 1, none⟩ (.slice A0_1 x0.Data.length c0_1), .cell ⟨b28, 0, none⟩ (.slice A2_0 x2.Shape.length c2_0), .cell ⟨b28, 1, none⟩ (.slice A2_1 x2.Data.length c2_1)] hf36 (by kernel_rfl) ⟨(eqT c37), (hm34.cell 1 rfl rfl), (hm34.cell 1 rfl rfl), (hm34.cell 0 rfl rfl), (hm34.cell 0 rfl rfl), trivial⟩ fun a39 hf40 => ?_
    refine listOf hf40 rfl (by kernel_rfl) (aCall (fid := 40) (args := [.agg #[.slice A0_0 x0.Shape.length c0_0, .slice A0_1 x0.Data.length c0_1], .agg #[.slice A2_0 x2.Shape.length c2_0, .slice A2_1 x2.Data.length c2_1]]) (d := 15) hf40 (by kernel_rfl) (by kernel_rfl) callable40 (ref1_SameTensor.calls _ _ x0 A0_0 x0.Shape.length c0_0 rfl A0_1 x0.Data.length c0_1 rfl x2 A2_0 x2.Shape.length c2_0 rfl A2_1 x2.Data.length c2_1 rfl (hm34.give [2, 3, 4, 5] [.sl (Kd.int .i64) A0_0 c0_0 x0.Shape, .sl Kd.float A0_1 c0_1 x0.Data, .sl (Kd.int .i64) A2_0 c2_0 x2.Shape, .sl Kd.float A2_1 c2_1 x2.Data] rfl rfl) r38 hr38) ?_)
    rintro _ w41 a42 ⟨rfl, hk44⟩ hf43
    have hm45 : Mem [] M w0 [.bx b28 [.slice A2_0 x2.Shape.length c2_0, .slice A2_1 x2.Data.length c2_1] 42, .bx b21 [.slice A0_0 x0.Shape.length c0_0, .slice A0_1 x0.Data.length c0_1] 42, .sl (Kd.int .i64) A0_0 c0_0 x0.Shape, .sl Kd.float A0_1 c0_1 x0.Data, .sl (Kd.int .i64) A2_0 c2_0 x2.Shape, .sl Kd.float A2_1 c2_1 x2.Data] w41 := hm34.still hk44.cum.none
    refine go 2 [] [8] [(8, .bool r38)] [] hf43 (by kernel_rfl) trivial fun a46 hf47 => ?_
    refine endL rfl ?_
    have hm48 : Mem [] M w0 [] w41 := hm45.sel [] _ rfl (by kernel_rfl)
    refine thenN ?_
    refine wp_ret ?_
    have hm49 : Mem [] M w0 [] w41 := hm48.sel [] _ rfl (by kernel_rfl)
    obtain rfl := Option.some.inj H0
    refine ret [] [.bool r38] [] hf47 (by kernel_rfl) trivial ?_
    exact ⟨_, rfl, rfl, hm49⟩
  · refine reg [.bool false] [8] [(8, .bool false)] [.is (((x1 : Int) == x3) = false)] hf36 (by kernel_rfl) ⟨(eqF c37), trivial⟩ fun a51 hf52 => ?_
    have hm53 : Mem [] M w0 [] w29 := hm34.sel [] _ rfl (by kernel_rfl)
    refine thenN ?_
    refine wp_ret ?_
    have hm54 : Mem [] M w0 [] w29 := hm53.sel [] _ rfl (by kernel_rfl)
    obtain rfl := Option.some.inj H0
    refine ret [] [.bool false] [] hf52 (by kernel_rfl) trivial ?_
    exact ⟨_, rfl, rfl, hm54⟩

/-! ### backstitch/backstitchlaw5.MatrixKnown$1 -/
noncomputable def law5_MatrixKnown_1.f (x0 : Int) (x1 : Int) (x2 : (List Nat)) : Option Tensor :=
  some (⟨([x0, x1] : List Int), x2⟩ : Tensor)
set_option maxRecDepth 100000 in
set_option maxHeartbeats 4000000 in
theorem law5_MatrixKnown_1.calls (M : List (Option Nat)) (w0 : World) (x0 : Int) (x1 : Int) (x2 : (List Nat)) (A2 : Option Addr) (n2 c2 : Nat) (e2 : n2 = x2.length) (hm0 : Mem [] M w0 [.sl Kd.float A2 c2 x2] w0) (r : Tensor) (H0 : law5_MatrixKnown_1.f x0 x1 x2 = some r) :
    Calls Try.prog 48 [.int .i64 x0, .int .i64 x1, .slice A2 n2 c2].toArray w0 (fun x w' => ∃ v, x = .returned v ∧ ∃ Ar0_0 cr0_0 Ar0_1 cr0_1, v = .agg #[.slice Ar0_0 r.Shape.length cr0_0, .slice Ar0_1 r.Data.length cr0_1] ∧ Mem [] M w0 [.ow (Kd.int .i64) 3 Ar0_0 cr0_0 r.Shape, .sl Kd.float Ar0_1 cr0_1 r.Data] w') := by
  subst e2
  unfold law5_MatrixKnown_1.f at H0
  refine enter (n := 12) Try.func48 rfl rfl (by kernel_rfl) fun a0 (hf0 : Fr 12 a0 [(0, .int .i64 x0), (1, .int .i64 x1), (2, .slice A2 x2.length c2)]) => ?_
  refine wp_seq ?_
  refine inReg ?_
  refine listOf hf0 rfl (by kernel_rfl) (aNew (cs := [.slice none 0 0, .slice none 0 0]) (T := 42) (d := 6) hf0 (by kernel_rfl) (by kernel_rfl) ?_)
  intro b21 w22 a23 hbb21 hx25 hg26 hf24
  have hm27 : Mem [] M w0 [.bx b21 [.slice none 0 0, .slice none 0 0] 42, .sl Kd.float A2 c2 x2] w22 := hm0.box hbb21 hx25 hg26
  refine endL rfl ?_
  refine thenN ?_
  refine wp_seq ?_
  refine inReg ?_
  refine go 2 [] [2, 6, 7, 8] [(2, .slice A2 x2.length c2), (6, .pointer (some ⟨b21, 0, none⟩)), (7, .int .i64 x0), (8, .int .i64 x1)] [] hf24 (by kernel_rfl) trivial fun a28 hf29 => ?_
  refine listOf hf29 rfl (by kernel_rfl) (aLit (cs := [.int .i64 x0, .int .i64 x1]) (E := 3) (len := 2) (d := 9) hf29 (by kernel_rfl) (by kernel_rfl) ?_)
  intro b30 w31 a32 hbb30 hx34 hg35 hf33
  have hm36 : Mem [] M w0 [.ow (Kd.int .i64) 3 (some ⟨b30, 0, none⟩) 2 ([x0, x1] : List Int), .bx b21 [.slice none 0 0, .slice none 0 0] 42, .sl Kd.float A2 c2 x2] w31 := Mem.litOwn (kd := (Kd.int .i64)) (xs := ([x0, x1] : List Int)) hm27 hbb30 hx34 hg35 (Els.append (Els.one (kd := (Kd.int .i64)) (us := [.int .i64 x0]) (x := x0) rfl) (Els.one (kd := (Kd.int .i64)) (us := [.int .i64 x1]) (x := x1) rfl)) (by simp [maxLen])
  refine go 2 [] [6, 11] [(6, .pointer (some ⟨b21, 0, none⟩)), (11, .agg #[.slice (some ⟨b30, 0, none⟩) 2 2, .slice A2 x2.length c2])] [] hf33 (by kernel_rfl) trivial fun a37 hf38 => ?_
  refine listOf hf38 rfl (by kernel_rfl) (aStoreB (b := b21) (j := 0) (T := 42) (cs := [.slice none 0 0, .slice none 0 0]) (us := [.slice (some ⟨b30, 0, none⟩) 2 2, .slice A2 x2.length c2]) (cs' := [.slice (some ⟨b30, 0, none⟩) 2 2, .slice A2 x2.length c2]) hf38 (by kernel_rfl) (hm36.bxAt 1 rfl) (by kernel_rfl) (by kernel_rfl) (by kernel_rfl) ?_)
  intro w39 hx40 hg41
  have hm42 : Mem [] M w0 [.ow (Kd.int .i64) 3 (some ⟨b30, 0, none⟩) 2 ([x0, x1] : List Int), .bx b21 [.slice (some ⟨b30, 0, none⟩) 2 2, .slice A2 x2.length c2] 42, .sl Kd.float A2 c2 x2] w39 := hm36.setBox 1 _ rfl rfl hx40 hg41
  refine endL rfl ?_
  refine thenN ?_
  refine wp_ret ?_
  have hm43 : Mem [] M w0 [.ow (Kd.int .i64) 3 (some ⟨b30, 0, none⟩) 2 ([x0, x1] : List Int), .sl Kd.float A2 c2 x2] w39 := hm42.sel [0, 2] _ rfl (by kernel_rfl)
  obtain rfl := Option.some.inj H0
  refine ret [.agg #[.slice (some ⟨b30, 0, none⟩) 2 2, .slice A2 x2.length c2]] [.agg #[.slice (some ⟨b30, 0, none⟩) 2 2, .slice A2 x2.length c2]] [.cell ⟨b21, 0, none⟩ (.slice (some ⟨b30, 0, none⟩) 2 2), .cell ⟨b21, 1, none⟩ (.slice A2 x2.length c2)] hf38 (by kernel_rfl) ⟨(hm42.cell 1 rfl rfl), (hm42.cell 1 rfl rfl), trivial⟩ ?_
  exact ⟨_, rfl, (some ⟨b30, 0, none⟩), 2, A2, c2, rfl, hm43⟩
end Go.Proofs.Ytkcgiolledmbnaa
