/- Printed by gen.py. -/
import Derived.Test.YteaoijahdinciaaF13
namespace Go.Proofs.Yteaoijahdinciaa
open Go Go.RowKit
set_option linter.unusedSimpArgs false
set_option linter.unusedVariables false
set_option linter.unnecessarySimpa false
/-! ### backstitch/backstitchref1.Same -/
noncomputable def ref1_Same.f (x0 : Nat) (x1 : Nat) : Option Bool :=
  (ref1_Bits.f x0).bind fun r23 =>
  (ref1_Bits.f x1).bind fun r24 =>
  if r23 = r24 then (some true)
  else (some false)
set_option maxRecDepth 100000 in
set_option maxHeartbeats 4000000 in
theorem ref1_Same.calls (M : List (Option Nat)) (w0 : World) (x0 : Nat) (b0 : Nat) (h0 : FR b0 x0) (x1 : Nat) (b1 : Nat) (h1 : FR b1 x1) (hm0 : Mem [] M w0 [] w0) (r : Bool) (H0 : ref1_Same.f x0 x1 = some r) :
    Calls Try.prog 41 [.float .f64 b0, .float .f64 b1].toArray w0 (fun x w' => ∃ v, x = .returned v ∧ v = .bool r ∧ Mem [] M w0 [] w') := by
  unfold ref1_Same.f at H0
  refine enter (n := 10) Try.func41 rfl rfl (by kernel_rfl) fun a0 (hf0 : Fr 10 a0 [(0, .float .f64 b0), (1, .float .f64 b1)]) => ?_
  refine wp_seq ?_
  refine rg [] [(0, vf b0), (1, vf b1)] hf0 ot fun a21 hf22 => ?_
  refine thenN ?_
  refine wp_seq ?_
  obtain ⟨r23, hr23, H0⟩ := ob_split H0
  obtain ⟨r24, hr24, H0⟩ := ob_split H0
  rcases if_split H0 with ⟨c25, H0⟩ | ⟨c25, H0⟩
  · refine inReg ?_
    refine gg 1 [] [(1, vf b1), (5, vf b0)] hf22 ot fun a26 hf27 => ?_
    refine lo hf27 rfl (cl 6 hf27 callable53 (ref1_Bits.calls _ _ x0 b0 h0 (hm0.give [] [] rfl rfl) r23 hr23) ?_)
    rintro _ w28 a29 ⟨rfl, hk31⟩ hf30
    have hm32 := hm0.still hk31.cum.none
    refine gg 1 [] [(6, .int .u64 r23), (7, vf b1)] hf30 ot fun a33 hf34 => ?_
    refine lo hf34 rfl (cl 8 hf34 callable53 (ref1_Bits.calls _ _ x1 b1 h1 (hm32.give [] [] rfl rfl) r24 hr24) ?_)
    rintro _ w35 a36 ⟨rfl, hk38⟩ hf37
    have hm39 := hm32.still hk38.cum.none
    refine gg 2 [.bool true] [(4, .bool true)] hf37 (oi (eqT c25) ot) fun a40 hf41 => ?_
    refine endL rfl ?_
    refine thenN ?_
    refine wp_ret ?_
    have hm42 : Mem [] M w0 [] w35 := hm39.se [] _ rfl
    obtain rfl := Option.some.inj H0
    refine rt [] [.bool true] hf41 ot ?_
    exact ⟨_, rfl, rfl, hm42⟩
  refine inReg ?_
  refine gg 1 [] [(1, vf b1), (5, vf b0)] hf22 ot fun a44 hf45 => ?_
  refine lo hf45 rfl (cl 6 hf45 callable53 (ref1_Bits.calls _ _ x0 b0 h0 (hm0.give [] [] rfl rfl) r23 hr23) ?_)
  rintro _ w46 a47 ⟨rfl, hk49⟩ hf48
  have hm50 := hm0.still hk49.cum.none
  refine gg 1 [] [(6, .int .u64 r23), (7, vf b1)] hf48 ot fun a51 hf52 => ?_
  refine lo hf52 rfl (cl 8 hf52 callable53 (ref1_Bits.calls _ _ x1 b1 h1 (hm50.give [] [] rfl rfl) r24 hr24) ?_)
  rintro _ w53 a54 ⟨rfl, hk56⟩ hf55
  have hm57 := hm50.still hk56.cum.none
  refine gg 2 [.bool false] [(4, .bool false)] hf55 (oi (eqF c25) ot) fun a58 hf59 => ?_
  refine endL rfl ?_
  refine thenN ?_
  refine wp_ret ?_
  have hm60 : Mem [] M w0 [] w53 := hm57.se [] _ rfl
  obtain rfl := Option.some.inj H0
  refine rt [] [.bool false] hf59 ot ?_
  exact ⟨_, rfl, rfl, hm60⟩

/-! ### backstitch/backstitchref1.SameTensor -/
noncomputable def ref1_SameTensor.l0 (x0 : Tensor) (x1 : Tensor) (s51 : Int) : Step Int (Out2 Int Bool) :=
  if s51 < (x0.Data.length : Int) then (if 0 ≤ s51 ∧ s51 < (x0.Data.length : Int) then (if 0 ≤ s51 ∧ s51 < (x1.Data.length : Int) then (bindS (ref1_Same.f (rd x0.Data s51) (rd x1.Data s51)) fun r63 =>
  if r63 = true then (.next (w64 (s51 + 1)))
  else (.done (.ret false)))
  else .bad)
  else .bad)
  else (.done (.go s51))
noncomputable def ref1_SameTensor.f (x0 : Tensor) (x1 : Tensor) : Option Bool :=
  (ref1_SameInts.f x0.Shape x1.Shape).bind fun r37 =>
  if r37 = true then (if (x0.Data.length : Int) = (x1.Data.length : Int) then ((loop (ref1_SameTensor.l0 x0 x1) 0).bind fun r52 =>
  r52.on (fun yr52 =>
  some true) (fun y => some y))
  else (some false))
  else (some false)
set_option maxRecDepth 100000 in
set_option maxHeartbeats 4000000 in
theorem ref1_SameTensor.calls (M : List (Option Nat)) (w0 : World) (x0 : Tensor) (A0_0 : Option Addr) (n0_0 c0_0 : Nat) (e0_0 : n0_0 = x0.Shape.length) (A0_1 : Option Addr) (n0_1 c0_1 : Nat) (e0_1 : n0_1 = x0.Data.length) (x1 : Tensor) (A1_0 : Option Addr) (n1_0 c1_0 : Nat) (e1_0 : n1_0 = x1.Shape.length) (A1_1 : Option Addr) (n1_1 c1_1 : Nat) (e1_1 : n1_1 = x1.Data.length) (hm0 : Mem [] M w0 [.sl (Kd.int .i64) A0_0 c0_0 x0.Shape, .sl Kd.float A0_1 c0_1 x0.Data, .sl (Kd.int .i64) A1_0 c1_0 x1.Shape, .sl Kd.float A1_1 c1_1 x1.Data] w0) (r : Bool) (H0 : ref1_SameTensor.f x0 x1 = some r) :
    Calls Try.prog 24 [.agg #[.slice A0_0 n0_0 c0_0, .slice A0_1 n0_1 c0_1], .agg #[.slice A1_0 n1_0 c1_0, .slice A1_1 n1_1 c1_1]].toArray w0 (fun x w' => ∃ v, x = .returned v ∧ v = .bool r ∧ Mem [] M w0 [] w') := by
  subst e0_0
  subst e0_1
  subst e1_0
  subst e1_1
  unfold ref1_SameTensor.f at H0
  refine enter (n := 40) Try.func24 rfl rfl (by kernel_rfl) fun a0 (hf0 : Fr 40 a0 [(0, .agg #[.slice A0_0 x0.Shape.length c0_0, .slice A0_1 x0.Data.length c0_1]), (1, .agg #[.slice A1_0 x1.Shape.length c1_0, .slice A1_1 x1.Data.length c1_1])]) => ?_
  refine wp_seq ?_
  refine inReg ?_
  refine lo hf0 rfl (nw (cs := [.slice A0_0 x0.Shape.length c0_0, .slice A0_1 x0.Data.length c0_1]) (T := 29) (d := 2) hf0 ?_)
  intro b21 w22 a23 hbb21 hx25 hg26 hf24
  have hm27 := hm0.box hbb21 hx25 hg26
  refine lo hf24 rfl (nw (cs := [.slice A1_0 x1.Shape.length c1_0, .slice A1_1 x1.Data.length c1_1]) (T := 29) (d := 3) hf24 ?_)
  intro b28 w29 a30 hbb28 hx32 hg33 hf31
  have hm34 := hm27.box hbb28 hx32 hg33
  refine gg 1 [] [(2, vp b21), (3, vp b28)] hf31 ot fun a35 hf36 => ?_
  refine endL rfl ?_
  refine thenN ?_
  refine wp_seq ?_
  refine wp_seq ?_
  obtain ⟨r37, hr37, H0⟩ := ob_split H0
  rcases ifb_split H0 with ⟨c38, H0⟩ | ⟨c38, H0⟩
  rotate_left
  · refine inReg ?_
    refine gg 4 [.slice A0_0 x0.Shape.length c0_0, .slice A1_0 x1.Shape.length c1_0] [(2, vp b21), (3, vp b28), (7, .slice A0_0 x0.Shape.length c0_0), (9, .slice A1_0 x1.Shape.length c1_0)] hf36 (oc (hm34.cell (j := 0) 1 rfl rfl) (oc (hm34.cell (j := 0) 0 rfl rfl) ot)) fun a182 hf183 => ?_
    refine lo hf183 rfl (cl 10 hf183 callable22 (ref1_SameInts.calls _ _ _ _ _ _ rfl _ _ _ _ rfl (hm34.give [2, 4] [.sl (Kd.int .i64) A0_0 c0_0 x0.Shape, .sl (Kd.int .i64) A1_0 c1_0 x1.Shape] rfl rfl) r37 hr37) ?_)
    rintro _ w184 a185 ⟨rfl, hk187⟩ hf186
    have hm188 := hm34.still hk187.cum.none
    rw [c38] at hf186
    refine gg 10 [] [(2, vp b21), (3, vp b28), (20, .bool true)] hf186 ot fun a189 hf190 => ?_
    refine endL rfl ?_
    refine thenN ?_
    refine cT hf190 ?_
    refine wp_seq ?_
    refine rg [] [(4, .bool false)] hf190 ot fun a191 hf192 => ?_
    have hm193 := hm188.se [] _ rfl
    refine thenN ?_
    refine wp_ret ?_
    refine thenR ?_
    have hm194 : Mem [] M w0 [] w184 := hm193.se [] _ rfl
    obtain rfl := Option.some.inj H0
    refine rt [] [.bool false] hf192 ot ?_
    exact ⟨_, rfl, rfl, hm194⟩
  rcases if_split H0 with ⟨c39, H0⟩ | ⟨c39, H0⟩
  rotate_left
  · refine inReg ?_
    refine gg 4 [.slice A0_0 x0.Shape.length c0_0, .slice A1_0 x1.Shape.length c1_0] [(2, vp b21), (3, vp b28), (7, .slice A0_0 x0.Shape.length c0_0), (9, .slice A1_0 x1.Shape.length c1_0)] hf36 (oc (hm34.cell (j := 0) 1 rfl rfl) (oc (hm34.cell (j := 0) 0 rfl rfl) ot)) fun a168 hf169 => ?_
    refine lo hf169 rfl (cl 10 hf169 callable22 (ref1_SameInts.calls _ _ _ _ _ _ rfl _ _ _ _ rfl (hm34.give [2, 4] [.sl (Kd.int .i64) A0_0 c0_0 x0.Shape, .sl (Kd.int .i64) A1_0 c1_0 x1.Shape] rfl rfl) r37 hr37) ?_)
    rintro _ w170 a171 ⟨rfl, hk173⟩ hf172
    have hm174 := hm34.still hk173.cum.none
    rw [c38] at hf172
    refine gg 10 [.slice A0_1 x0.Data.length c0_1, .slice A1_1 x1.Data.length c1_1, .bool true] [(2, vp b21), (3, vp b28), (20, .bool true)] hf172 (oc (hm174.cell (j := 1) 1 rfl rfl) (oc (hm174.cell (j := 1) 0 rfl rfl) (oi (neT c39) ot))) fun a175 hf176 => ?_
    refine endL rfl ?_
    refine thenN ?_
    refine cT hf176 ?_
    refine wp_seq ?_
    refine rg [] [(4, .bool false)] hf176 ot fun a177 hf178 => ?_
    have hm179 := hm174.se [] _ rfl
    refine thenN ?_
    refine wp_ret ?_
    refine thenR ?_
    have hm180 : Mem [] M w0 [] w170 := hm179.se [] _ rfl
    obtain rfl := Option.some.inj H0
    refine rt [] [.bool false] hf178 ot ?_
    exact ⟨_, rfl, rfl, hm180⟩
  refine inReg ?_
  refine gg 4 [.slice A0_0 x0.Shape.length c0_0, .slice A1_0 x1.Shape.length c1_0] [(2, vp b21), (3, vp b28), (7, .slice A0_0 x0.Shape.length c0_0), (9, .slice A1_0 x1.Shape.length c1_0)] hf36 (oc (hm34.cell (j := 0) 1 rfl rfl) (oc (hm34.cell (j := 0) 0 rfl rfl) ot)) fun a40 hf41 => ?_
  refine lo hf41 rfl (cl 10 hf41 callable22 (ref1_SameInts.calls _ _ _ _ _ _ rfl _ _ _ _ rfl (hm34.give [2, 4] [.sl (Kd.int .i64) A0_0 c0_0 x0.Shape, .sl (Kd.int .i64) A1_0 c1_0 x1.Shape] rfl rfl) r37 hr37) ?_)
  rintro _ w42 a43 ⟨rfl, hk45⟩ hf44
  have hm46 := hm34.still hk45.cum.none
  rw [c38] at hf44
  refine gg 10 [.slice A0_1 x0.Data.length c0_1, .slice A1_1 x1.Data.length c1_1, .bool false] [(2, vp b21), (3, vp b28), (20, .bool false)] hf44 (oc (hm46.cell (j := 1) 1 rfl rfl) (oc (hm46.cell (j := 1) 0 rfl rfl) (oi (neF c39) ot))) fun a47 hf48 => ?_
  refine endL rfl ?_
  refine thenN ?_
  refine cF hf48 ?_
  refine wp_skip ?_
  refine thenN ?_
  refine wp_seq ?_
  refine wp_seq ?_
  refine rg [] [(2, vp b21), (3, vp b28), (5, vi 0)] hf48 ot fun a49 hf50 => ?_
  refine thenN ?_
  obtain ⟨r52, hr52, H0⟩ := ob_split H0
  refine wpBlock (Mid := fun (a : Act) (w : World) => ∃ yr52 : Int, r52 = .go yr52 ∧ Fr 40 a [(2, .pointer (some ⟨b21, 0, none⟩)), (3, .pointer (some ⟨b28, 0, none⟩)), (5, .int .i64 yr52)] ∧ Mem [] M w0 [.bx b28 [.slice A1_0 x1.Shape.length c1_0, .slice A1_1 x1.Data.length c1_1] 29, .bx b21 [.slice A0_0 x0.Shape.length c0_0, .slice A0_1 x0.Data.length c0_1] 29, .sl (Kd.int .i64) A0_0 c0_0 x0.Shape, .sl Kd.float A0_1 c0_1 x0.Data, .sl (Kd.int .i64) A1_0 c1_0 x1.Shape, .sl Kd.float A1_1 c1_1 x1.Data] w) ?_ ?_
  · refine wpLoop (ref1_SameTensor.l0 x0 x1) r52 (fun (s51 : Int) (a : Act) (w : World) => Fr 40 a [(2, .pointer (some ⟨b21, 0, none⟩)), (3, .pointer (some ⟨b28, 0, none⟩)), (5, .int .i64 s51)] ∧ Mem [] M w0 [.bx b28 [.slice A1_0 x1.Shape.length c1_0, .slice A1_1 x1.Data.length c1_1] 29, .bx b21 [.slice A0_0 x0.Shape.length c0_0, .slice A0_1 x0.Data.length c0_1] 29, .sl (Kd.int .i64) A0_0 c0_0 x0.Shape, .sl Kd.float A0_1 c0_1 x0.Data, .sl (Kd.int .i64) A1_0 c1_0 x1.Shape, .sl Kd.float A1_1 c1_1 x1.Data] w) 0 hr52 ⟨hf50.se [2, 3, 5], hm46.se [0, 1, 2, 3, 4, 5] _ rfl⟩ ?_
    rintro g53 s51 a54 w55 H1 ⟨hf56, hm57⟩
    unfold ref1_SameTensor.l0 at H1
    refine wp_seq ?_
    refine wp_seq ?_
    rcases ifS_split H1 with ⟨c58, H1⟩ | ⟨c58, H1⟩
    rotate_left
    · refine rg (ob := [.cell ⟨b21, 1, none⟩ (.slice A0_1 x0.Data.length c0_1), .is (decide (s51 < (x0.Data.length : Int)) = false)]) [.slice A0_1 x0.Data.length c0_1, .bool false] [(2, vp b21), (3, vp b28), (5, vi s51), (25, .bool false)] hf56 ⟨(hm57.cell 1 rfl rfl), (decide_eq_false c58), trivial⟩ fun a157 hf158 => ?_
      refine thenN ?_
      refine cF hf158 ?_
      refine wp_exit ?_
      refine thenE ?_
      refine thenE ?_
      obtain rfl := Option.some.inj H1
      exact .inl ⟨rfl, s51, rfl, hf158.se [2, 3, 5], hm57.se [0, 1, 2, 3, 4, 5] _ rfl⟩
    refine rg (ob := [.cell ⟨b21, 1, none⟩ (.slice A0_1 x0.Data.length c0_1), .is (decide (s51 < (x0.Data.length : Int)) = true)]) [.slice A0_1 x0.Data.length c0_1, .bool true] [(2, vp b21), (3, vp b28), (5, vi s51), (25, .bool true)] hf56 ⟨(hm57.cell 1 rfl rfl), (decide_eq_true c58), trivial⟩ fun a59 hf60 => ?_
    refine thenN ?_
    refine cT hf60 ?_
    refine wp_skip ?_
    refine thenN ?_
    refine wp_seq ?_
    refine wp_block ?_
    refine wp_seq ?_
    obtain ⟨g61, H1⟩ := ifS_guard H1
    obtain ⟨g62, H1⟩ := ifS_guard H1
    obtain ⟨r63, hr63, H1⟩ := obS_split H1
    rcases ifbS_split H1 with ⟨c65, H1⟩ | ⟨c65, H1⟩
    · refine midReg (fun (a : Act) (w : World) => Fr 40 a [(2, .pointer (some ⟨b21, 0, none⟩)), (3, .pointer (some ⟨b28, 0, none⟩)), (5, .int .i64 s51), (39, .bool false)] ∧ Mem [] M w0 [.bx b28 [.slice A1_0 x1.Shape.length c1_0, .slice A1_1 x1.Data.length c1_1] 29, .bx b21 [.slice A0_0 x0.Shape.length c0_0, .slice A0_1 x0.Data.length c0_1] 29, .sl (Kd.int .i64) A0_0 c0_0 x0.Shape, .sl Kd.float A0_1 c0_1 x0.Data, .sl (Kd.int .i64) A1_0 c1_0 x1.Shape, .sl Kd.float A1_1 c1_1 x1.Data] w) ?_ ?_
      · refine anyG (K := []) [] (by kernel_rfl) fun w75 hg76 => ?_
        have hm77 := hm57.still hg76
        have q91 := (hm77.slAt 3 rfl).float s51 g61.1 g61.2
        obtain ⟨b92, hb92, kb92⟩ := q91.2
        have q93 := (hm77.slAt 5 rfl).float s51 g62.1 g62.2
        obtain ⟨b94, hb94, kb94⟩ := q93.2
        refine qt [0, 1, 2, 3, 4, 5, 6, 7, 8, 9] [.slice A0_1 x0.Data.length c0_1, .float .f64 b92, .slice A1_1 x1.Data.length c1_1, .float .f64 b94] (fb 12 1023) [(2, vp b21), (3, vp b28), (5, vi s51), (32, vf b92), (37, vf b94)] 2 hf60 (oc (hm77.cell (j := 1) 1 rfl rfl) (oi q91.1 (oi g61 (oc kb92 (oc (hm77.cell (j := 1) 0 rfl rfl) (oi q93.1 (oi g62 (oc kb94 ot)))))))) fun a95 hf96 => ?_
        refine a1 10 ?_
        refine oo hf96 rfl (cl 38 hf96 callable41 (ref1_Same.calls _ _ (rd x0.Data s51) b92 hb92 (rd x1.Data s51) b94 hb94 (hm77.give [] [] rfl rfl) r63 hr63) ?_)
        rintro _ w97 a98 ⟨rfl, hk100⟩ hf99
        refine ⟨.inr (Gr.still hk100.cum.none), ?_⟩
        have hm101 := hm77.still hk100.cum.none
        rw [c65] at hf99
        refine qt [11] [] (fb 12 4095) [(2, vp b21), (3, vp b28), (5, vi s51), (39, .bool false)] 0 hf99 ot fun a102 hf103 => ?_
        refine aD ⟨rfl, hf103.se [2, 3, 5, 39], hm101.se [0, 1, 2, 3, 4, 5] _ rfl⟩
      rintro a104 w105 ⟨hf106, hm107⟩
      refine thenN ?_
      refine cF hf106 ?_
      refine wp_skip ?_
      refine blkN ?_
      refine thenN ?_
      refine rg [] [(2, vp b21), (3, vp b28), (5, vi (w64 (s51 + 1)))] hf106 ot fun a108 hf109 => ?_
      exact ⟨(w64 (s51 + 1)), H1, hf109.se [2, 3, 5], hm107.se [0, 1, 2, 3, 4, 5] _ rfl⟩
    refine midReg (fun (a : Act) (w : World) => Fr 40 a [(2, .pointer (some ⟨b21, 0, none⟩)), (3, .pointer (some ⟨b28, 0, none⟩)), (5, .int .i64 s51), (39, .bool true)] ∧ Mem [] M w0 [.bx b28 [.slice A1_0 x1.Shape.length c1_0, .slice A1_1 x1.Data.length c1_1] 29, .bx b21 [.slice A0_0 x0.Shape.length c0_0, .slice A0_1 x0.Data.length c0_1] 29, .sl (Kd.int .i64) A0_0 c0_0 x0.Shape, .sl Kd.float A0_1 c0_1 x0.Data, .sl (Kd.int .i64) A1_0 c1_0 x1.Shape, .sl Kd.float A1_1 c1_1 x1.Data] w) ?_ ?_
    · refine anyG (K := []) [] (by kernel_rfl) fun w119 hg120 => ?_
      have hm121 := hm57.still hg120
      have q135 := (hm121.slAt 3 rfl).float s51 g61.1 g61.2
      obtain ⟨b136, hb136, kb136⟩ := q135.2
      have q137 := (hm121.slAt 5 rfl).float s51 g62.1 g62.2
      obtain ⟨b138, hb138, kb138⟩ := q137.2
      refine qt [0, 1, 2, 3, 4, 5, 6, 7, 8, 9] [.slice A0_1 x0.Data.length c0_1, .float .f64 b136, .slice A1_1 x1.Data.length c1_1, .float .f64 b138] (fb 12 1023) [(2, vp b21), (3, vp b28), (5, vi s51), (32, vf b136), (37, vf b138)] 2 hf60 (oc (hm121.cell (j := 1) 1 rfl rfl) (oi q135.1 (oi g61 (oc kb136 (oc (hm121.cell (j := 1) 0 rfl rfl) (oi q137.1 (oi g62 (oc kb138 ot)))))))) fun a139 hf140 => ?_
      refine a1 10 ?_
      refine oo hf140 rfl (cl 38 hf140 callable41 (ref1_Same.calls _ _ (rd x0.Data s51) b136 hb136 (rd x1.Data s51) b138 hb138 (hm121.give [] [] rfl rfl) r63 hr63) ?_)
      rintro _ w141 a142 ⟨rfl, hk144⟩ hf143
      refine ⟨.inr (Gr.still hk144.cum.none), ?_⟩
      have hm145 := hm121.still hk144.cum.none
      rw [c65] at hf143
      refine qt [11] [] (fb 12 4095) [(2, vp b21), (3, vp b28), (5, vi s51), (39, .bool true)] 0 hf143 ot fun a146 hf147 => ?_
      refine aD ⟨rfl, hf147.se [2, 3, 5, 39], hm145.se [0, 1, 2, 3, 4, 5] _ rfl⟩
    rintro a148 w149 ⟨hf150, hm151⟩
    refine thenN ?_
    refine cT hf150 ?_
    refine wp_seq ?_
    refine rg [] [(4, .bool false)] hf150 ot fun a152 hf153 => ?_
    have hm154 := hm151.se [] _ rfl
    refine thenN ?_
    refine wp_ret ?_
    refine blkR ?_
    refine thenR ?_
    refine thenR ?_
    refine .inr ⟨rfl, ?_⟩
    refine thenR ?_
    have hm155 : Mem [] M w0 [] w149 := hm154.se [] _ rfl
    obtain rfl := Option.some.inj H1
    obtain rfl := Option.some.inj H0
    refine rt [] [.bool false] hf153 ot ?_
    exact ⟨_, rfl, rfl, hm155⟩
  rintro a159 w160 ⟨yr52, rfl, hf161, hm162⟩
  refine thenN ?_
  refine wp_seq ?_
  refine rg [] [(4, .bool true)] hf161 ot fun a163 hf164 => ?_
  have hm165 := hm162.se [] _ rfl
  refine thenN ?_
  refine wp_ret ?_
  have hm166 : Mem [] M w0 [] w160 := hm165.se [] _ rfl
  obtain rfl := Option.some.inj H0
  refine rt [] [.bool true] hf164 ot ?_
  exact ⟨_, rfl, rfl, hm166⟩
end Go.Proofs.Yteaoijahdinciaa
